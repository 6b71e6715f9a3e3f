/- Parts of the proof: what functions of the program compute, on plain values. -/
import Derived.Test.YtefpoodhdfggdaaABMonitor1
set_option linter.unusedVariables false
set_option linter.unusedSimpArgs false
namespace Go.Proofs.Ytefpoodhdfggdaa.AB
open Go

theorem mfind_app {α : Type} (y n : Int) (v : α) : ∀ ws : List (Int × α), mfind (eqN y) (ws ++ [(n, v)]) = match mfind (eqN y) ws with | some u => some u | none => if y = n then some v else none
  | [] => by
    show mfind (eqN y) [(n, v)] = _
    by_cases h : y = n
    · subst h; rw [mfind_one, if_pos rfl]; rfl
    · rw [mfind_other v h, if_neg h]; rfl
  | (k, b) :: r => by
    rw [List.cons_append]
    unfold mfind
    cases hk : eqN y k with
    | true => rfl
    | false => exact mfind_app y n v r

theorem mfind_filter {α : Type} (x y : Int) : ∀ ws : List (Int × α), mfind (eqN y) (ws.filter fun e => !(eqN x e.1)) = if y = x then none else mfind (eqN y) ws
  | [] => by split <;> rfl
  | (k, b) :: r => by
    rw [List.filter_cons]
    have ih := mfind_filter x y r
    by_cases hx : x = k
    · subst hx
      simp only [eqN_iff.2 rfl, Bool.not_true, Bool.false_eq_true, if_false]
      rw [ih]
      by_cases hy : y = x
      · rw [if_pos hy, if_pos hy]
      · rw [if_neg hy, if_neg hy]
        have : eqN y x = false := by
          cases hc : eqN y x with
          | false => rfl
          | true => exact absurd (eqN_iff.1 hc) hy
        conv => rhs; unfold mfind
        rw [this]
    · have hxk : eqN x k = false := by
        cases hc : eqN x k with
        | false => rfl
        | true => exact absurd (eqN_iff.1 hc) hx
      simp only [hxk, Bool.not_false, if_true]
      conv => lhs; unfold mfind
      cases hy : eqN y k with
      | true =>
        have := eqN_iff.1 hy
        subst this
        rw [if_neg (fun q => hx q.symm)]
        unfold mfind
        simp only [eqN_iff.2 rfl]
      | false =>
        dsimp only
        rw [ih]
        conv => rhs; unfold mfind
        rw [hy]

/-- who holds, and who waits, in order -/
structure FS (p : PD) (o a : Int) (r : List Int) (k : Nat) : Prop where
  es : ∃ s, p.es = [(o, (a, (k : Int), s, r))]
  k1 : 1 ≤ k
  nd : (p.ws.map (·.1)).Nodup
  ws : ∀ x, mfind (eqN x) p.ws = if x ∈ r then some o else none

structure F0 (p : PD) : Prop where
  es : p.es = []
  nd : (p.ws.map (·.1)).Nodup
  ws : ∀ x, mfind (eqN x) p.ws = none

variable {p : PD} {o a n x : Int} {r : List Int} {k : Nat}

theorem F0.enter (h : F0 p) (ho : 1 ≤ o) (hn : 1 ≤ n) : ∃ p', enterP p o n = ((true, 0), p') ∧ FS p' o n [] 1 := by
  refine ⟨_, by unfold enterP; rw [if_neg (by omega), if_neg (no_wait (h.ws n)), h.es]; rfl, ?_⟩
  refine ⟨⟨nextT p, ?_⟩, Nat.le_refl _, h.nd, fun x => by rw [if_neg (by simp)]; exact h.ws x⟩
  show updK ([] ++ [(o, (0, 0, 0, []))]) o (n, 1, nextT p, []) = _
  rw [List.nil_append, updK_one]; rfl

theorem FS.find (h : FS p o a r k) : ∃ s, mfind (eqN o) p.es = some (a, (k : Int), s, r) := by
  obtain ⟨s, hs⟩ := h.es
  exact ⟨s, by rw [hs]; exact mfind_one _ _⟩

theorem FS.enter1 (h : FS p o a r k) (ho : 1 ≤ o) (hn : 1 ≤ n) (ha : n ≠ a) (hr : n ∉ r) : ∃ p', enterP p o n = ((false, 0), p') ∧ FS p' o a (r ++ [n]) k := by
  obtain ⟨s, hs⟩ := h.es
  have hw := h.ws n
  rw [if_neg hr] at hw
  refine ⟨_, by unfold enterP; rw [if_neg (by omega), if_neg (no_wait hw), hs, mfind_one]; dsimp only; rw [if_neg (fun q => ha q.symm)], ⟨⟨s, ?_⟩, h.k1, ?_, fun y => ?_⟩⟩
  · dsimp only; rw [updK_one]
  · dsimp only
    rw [mset_absent hw, List.map_append, List.nodup_append]
    refine ⟨h.nd, by simp, fun u hu v hv => ?_⟩
    simp only [List.map_cons, List.map_nil, List.mem_singleton] at hv
    subst hv
    obtain ⟨e, he, rfl⟩ := List.mem_map.1 hu
    exact mfind_none hw e he
  · dsimp only
    rw [mset_absent hw, mfind_app, h.ws y]
    by_cases hy : y ∈ r
    · rw [if_pos hy, if_pos (List.mem_append_left _ hy)]
    · rw [if_neg hy]
      dsimp only
      by_cases hyn : y = n
      · rw [if_pos hyn, if_pos (by rw [hyn]; simp)]
      · rw [if_neg hyn, if_neg (by simp [hy, hyn])]

theorem FS.enter2 (h : FS p o a r k) (ho : 1 ≤ o) (hn : 1 ≤ a) (hr : a ∉ r) (hk : k ≤ 1000) : ∃ p', enterP p o a = ((true, 0), p') ∧ FS p' o a r (k + 1) := by
  obtain ⟨s, hs⟩ := h.es
  have hw := h.ws a
  rw [if_neg hr] at hw
  refine ⟨_, by unfold enterP; rw [if_neg (by omega), if_neg (no_wait hw), hs, mfind_one]; dsimp only; rw [if_pos rfl], ?_⟩
  refine ⟨⟨s, ?_⟩, by omega, h.nd, h.ws⟩
  dsimp only
  rw [updK_one, wrap64 (by omega) (by omega)]; rfl

theorem FS.enter3 (h : FS p o a r k) (ho : 1 ≤ o) (hn : 1 ≤ n) (hr : n ∈ r) : enterP p o n = ((false, 25), p) := by
  have hw := h.ws n
  rw [if_pos hr] at hw
  unfold enterP; rw [if_neg (by omega), if_pos ⟨o, hw, by omega⟩]

theorem FS.exit1 (h : FS p o a r k) (ho : 1 ≤ o) (hn : 1 ≤ a) (hk : 2 ≤ k ∧ k ≤ 1000) : ∃ p', exitP p o a = ((0, 0), p') ∧ FS p' o a r (k - 1) := by
  obtain ⟨s, hs⟩ := h.es
  refine ⟨_, by unfold exitP; rw [if_neg (by omega), hs, mfind_one]; dsimp only; rw [if_neg (fun q => q rfl), wrap64 (by omega) (by omega), if_pos (by omega)], ?_⟩
  refine ⟨⟨s, ?_⟩, by omega, h.nd, h.ws⟩
  dsimp only
  rw [updK_one, show (k : Int) - 1 = ((k - 1 : Nat) : Int) by omega]

theorem FS.exit2 (h : FS p o a [] 1) (ho : 1 ≤ o) (hn : 1 ≤ a) : ∃ p', exitP p o a = ((0, 0), p') ∧ F0 p' := by
  obtain ⟨s, hs⟩ := h.es
  have hnx : ∀ q : PD, q.es = [(o, (a, 0, s, []))] → nextP q o = (0, { q with es := mdel (eqN o) q.es }) := fun q hq => by unfold nextP; rw [hq, mfind_one]
  refine ⟨_, by unfold exitP; rw [if_neg (by omega), hs, mfind_one]; dsimp only; rw [if_neg (fun q => q rfl), if_neg (by decide), hnx _ (by dsimp only; rw [updK_one]; rfl)], ?_⟩
  refine ⟨?_, h.nd, fun x => by have := h.ws x; rw [if_neg (by simp)] at this; exact this⟩
  dsimp only
  rw [updK_one, mdel_eq _ _ (by simp)]
  simp [eqN_iff.2]

theorem FS.exit3 (h : FS p o a (x :: r) 1) (ho : 1 ≤ o) (hn : 1 ≤ a) (hx : x ∉ r) : ∃ p', exitP p o a = ((x, 0), p') ∧ FS p' o x r 1 := by
  obtain ⟨s, hs⟩ := h.es
  have hnx : ∀ q : PD, q.es = [(o, (a, 0, s, x :: r))] → nextP q o = (x, { es := updK (updK q.es o (a, 0, s, r)) o (x, 1, nextT q, r), ws := mdel (eqN x) q.ws, turn := nextT q }) := fun q hq => by unfold nextP; rw [hq, mfind_one]
  refine ⟨_, by unfold exitP; rw [if_neg (by omega), hs, mfind_one]; dsimp only; rw [if_neg (fun q => q rfl), if_neg (by decide), hnx _ (by dsimp only; rw [updK_one]; rfl)], ?_⟩
  refine ⟨⟨nextT p, ?_⟩, Nat.le_refl _, ?_, fun y => ?_⟩
  · dsimp only
    rw [updK_one, updK_one, updK_one]; rfl
  · dsimp only
    rw [mdel_eq _ _ h.nd]
    exact h.nd.sublist (List.filter_sublist.map _)
  · dsimp only
    rw [mdel_eq _ _ h.nd, mfind_filter, h.ws y]
    by_cases hy : y = x
    · subst hy; rw [if_pos rfl, if_neg hx]
    · rw [if_neg hy]
      by_cases hyr : y ∈ r
      · rw [if_pos hyr, if_pos (List.mem_cons_of_mem _ hyr)]
      · rw [if_neg hyr, if_neg (by simp [hy, hyr])]

end Go.Proofs.Ytefpoodhdfggdaa.AB

set_option linter.unusedVariables false
set_option linter.unusedSimpArgs false
namespace Go.Proofs.Ytefpoodhdfggdaa.AB
open Go

def SO (p : PD) (o : Int) (m : Nat) : List Int → Prop
  | [] => F0 p
  | a :: r => ∃ k, k ≤ m ∧ FS p o a r k

theorem SO.short {p : PD} {o : Int} {m : Nat} : ∀ {l : List Int}, SO p o m l → l.length ≤ 1000 → short p
  | [], h, _ => fun e he => by rw [F0.es h] at he; cases he
  | a :: r, ⟨k, _, h⟩, hl => fun e he => by
    obtain ⟨s, hs⟩ := h.es
    rw [hs, List.mem_singleton] at he
    subst he
    simp only [List.length_cons] at hl
    show r.length ≤ 1000000
    omega

set_option maxHeartbeats 1000000 in
/-- MonitorFair -/
theorem p10 (object : Int) (threads : List Int) (h1 : -9223372036854775808 ≤ object ∧ object ≤ 9223372036854775807) (hth : ∀ x ∈ threads, -9223372036854775808 ≤ x ∧ x ≤ 9223372036854775807) (htl : threads.length ≤ 9223372036854775807) :
    PC Try.prog 10 [.int .i64 object, .list (.int .i64) threads .no] (.bool true) := by
  have hob := pickR_lt object (n := 1000) (by omega)
  obtain ⟨o, ho'⟩ : ∃ o : Int, o = 1 + ((pickR object 1000 : Nat) : Int) := ⟨_, rfl⟩
  have ho1 : 1 ≤ o := by omega
  refine lawOf (X := X10) rfl FN10 (by kernel_rfl) (by decide) (E10 object threads ⟨true, p28, fun e => (by cases e), fun _ => c29.mono ?_⟩)
  rintro p X3 ⟨t, d0, rfl, r0, _, hp0⟩
  refine ⟨fun e => (by cases e), fun _ => ⟨_, pick_ok object (n := 1000) h1 (by omega), ?_⟩⟩
  have w1 : IntKind.wrap .i64 ((1 : Int) + ((pickR object 1000 : Nat) : Int)) = o := by rw [wrap64 (by omega) (by omega)]; omega
  rw [w1]
  -- giving up
  have second : ∀ (ord : List Int) (tk : Tok) (X : XH) (T : Toks), ord.length ≤ 60 → ord.Nodup → (∀ x ∈ ord, 1 ≤ x) → (∃ d, MRep X t d ∧ SO d.p o 1000 ord) →
      Loops B10_5 M10_5 (Q10_5 fun v => v.norm = .bool true ∧ (V.bool true).nt = true) (S10_5 o true (some t) ord tk 0 X T) := by
    intro ord tk X T hlen hnd hpos h0
    refine Loops.intro (fun q : Nat × XH => S10_5 o true (some t) ord tk (q.1 : Int) q.2 T) (fun q => q.1 ≤ ord.length ∧ ∃ d, MRep q.2 t d ∧ SO d.p o 1000 (ord.drop q.1)) (fun q => ord.length - q.1) (0, X) rfl ⟨Nat.zero_le _, h0⟩ ?_
    rintro ⟨i, X⟩ ⟨hi0, d, r, hso0⟩
    have hi : i ≤ ord.length := hi0
    have hso : SO d.p o 1000 (ord.drop i) := hso0
    have hs : short d.p := hso.short (by rw [List.length_drop]; omega)
    refine L10_5 o true (some t) ord tk i X T ⟨fun e => ?_, fun e => ?_⟩
    · have e := of_decide_eq_true e
      have hi' : i < ord.length := by omega
      have hdr : ord.drop i = ord[i] :: ord.drop (i + 1) := List.drop_eq_getElem_cons hi'
      rw [hdr] at hso
      obtain ⟨k, hk, hfs⟩ := hso
      obtain ⟨s, hf⟩ := hfs.find
      have hg : ord.getD i 0 = ord[i] := by simp [List.getD, List.getElem?_eq_getElem hi']
      have ha1 : 1 ≤ ord[i] := hpos _ (List.getElem_mem hi')
      have how : ownerP d.p o = (ord[i], (k : Int)) := by unfold ownerP; rw [hf]
      have hwt : waitsP d.p o = ord.drop (i + 1) := by unfold waitsP; rw [hf]
      have hk1 := hfs.k1
      refine ⟨_, c38 r o, by omega, by omega, ?_⟩
      rw [how, Int.toNat_natCast, hg]
      refine ⟨fun e => (by simp at e), fun _ => ⟨fun e => absurd (of_decide_eq_true e) (by show ¬ (k : Int) < 1; omega), fun _ => ⟨_, c40 r hs o, ?_⟩⟩⟩
      rw [hwt, wrap64 (x := ((ord.length : Nat) : Int) - (i : Int)) (by omega) (by omega), wrap64 (x := ((ord.length : Nat) : Int) - (i : Int) - 1) (by omega) (by omega), List.length_drop]
      refine ⟨fun e => ?_, fun _ => ?_⟩
      · have : ((ord.length - (i + 1) : Nat) : Int) ≠ ((ord.length : Nat) : Int) - (i : Int) - 1 := by simpa using e
        omega
      refine Loops.intro (fun q : Nat × XH => S10_7 o true (some t) ord tk (i : Int) (q.1 : Int) q.2 T) (fun q => q.1 ≤ 1000 ∧ ∃ d, MRep q.2 t d ∧ (1 ≤ q.1 → FS d.p o ord[i] (ord.drop (i + 1)) q.1) ∧ (q.1 = 0 → SO d.p o 1000 (ord.drop (i + 1)))) (fun q => q.1) (k, X) rfl
        ⟨hk, d, r, fun _ => hfs, fun h => absurd h (by omega)⟩ ?_
      rintro ⟨m, Y⟩ ⟨hm0, d, r, hA0, hB0⟩
      have hm : m ≤ 1000 := hm0
      have hA : 1 ≤ m → FS d.p o ord[i] (ord.drop (i + 1)) m := hA0
      have hB : m = 0 → SO d.p o 1000 (ord.drop (i + 1)) := hB0
      refine L10_7 o true (some t) ord tk i m Y T ⟨fun e => ?_, fun e => ?_⟩
      · have e := of_decide_eq_true e
        have hm1 : 1 ≤ m := by omega
        have hfs := hA hm1
        have hs : short d.p := SO.short (l := ord[i] :: ord.drop (i + 1)) (m := 1000) ⟨m, hm, hfs⟩ (by rw [← hdr, List.length_drop]; omega)
        rw [Int.toNat_natCast, hg, wrap64 (x := (m : Int) - 1) (by omega) (by omega), wrap64 (x := (i : Int) + 1) (by omega) (by omega)]
        refine ⟨by omega, by omega, (c33 r hs o ord[i]).mono ?_⟩
        rintro p12 X13 ⟨hp12, hgo⟩
        have em : (m : Int) - 1 = ((m - 1 : Nat) : Int) := by omega
        have next : (∃ d', MRep X13 t d' ∧ (1 ≤ m - 1 → FS d'.p o ord[i] (ord.drop (i + 1)) (m - 1)) ∧ (m - 1 = 0 → SO d'.p o 1000 (ord.drop (i + 1)))) → Again (fun q : Nat × XH => S10_7 o true (some t) ord tk (i : Int) (q.1 : Int) q.2 T)
            (fun q => q.1 ≤ 1000 ∧ ∃ d, MRep q.2 t d ∧ (1 ≤ q.1 → FS d.p o ord[i] (ord.drop (i + 1)) q.1) ∧ (q.1 = 0 → SO d.p o 1000 (ord.drop (i + 1)))) (fun q => q.1) m (S10_7 o true (some t) ord tk (i : Int) ((m : Int) - 1) X13 T) := fun hh =>
          Again.mk (m - 1, X13) (by rw [em]) ⟨by show m - 1 ≤ 1000; omega, hh⟩ (show m - 1 < m by omega)
        refine ⟨fun e5 => ⟨fun e6 => ?_, fun e6 => ?_⟩, fun e5 => ?_⟩
        · have e5 : (m : Int) - 1 = 0 := by simpa using e5
          have hm2 : m = 1 := by omega
          have e6 := of_decide_eq_true e6
          have hi2 : i + 1 < ord.length := by omega
          have hdr2 : ord.drop (i + 1) = ord[i + 1] :: ord.drop (i + 1 + 1) := List.drop_eq_getElem_cons hi2
          have hfs1 := hfs
          rw [hm2, hdr2] at hfs1
          have hnx : ord[i + 1] ∉ ord.drop (i + 1 + 1) := by
            have := hnd.sublist (List.drop_sublist (i + 1) ord)
            rw [hdr2, List.nodup_cons] at this
            exact this.1
          obtain ⟨p', ep, fp⟩ := hfs1.exit3 ho1 ha1 hnx
          rw [ep] at hp12 hgo
          obtain ⟨d', r', hp'⟩ := hgo.at
          have hp' : d'.p = p' := hp'
          subst hp12
          have hg2 : ord.getD ((i : Int) + 1).toNat 0 = ord[i + 1] := by
            rw [show ((i : Int) + 1).toNat = i + 1 by omega]
            simp [List.getD, List.getElem?_eq_getElem hi2]
          rw [hg2]
          exact ⟨by omega, by omega, fun e => (by simp at e), fun _ => ⟨fun e => (by simp at e), fun _ => next ⟨d', r', fun h => absurd h (by omega), fun _ => by rw [hdr2, hp']; exact ⟨1, by omega, fp⟩⟩⟩⟩
        · have e5 : (m : Int) - 1 = 0 := by simpa using e5
          have hm2 : m = 1 := by omega
          have e6 := of_decide_eq_false e6
          have hdr2 : ord.drop (i + 1) = [] := List.drop_eq_nil_of_le (by omega)
          have hfs1 := hfs
          rw [hm2, hdr2] at hfs1
          obtain ⟨p', ep, fp⟩ := hfs1.exit2 ho1 ha1
          rw [ep] at hp12 hgo
          obtain ⟨d', r', hp'⟩ := hgo.at
          have hp' : d'.p = p' := hp'
          subst hp12
          exact ⟨fun e => (by simp at e), fun _ => ⟨fun e => (by simp at e), fun _ => next ⟨d', r', fun h => absurd h (by omega), fun _ => by rw [hdr2, hp']; exact fp⟩⟩⟩
        · have e5 : ¬ (m : Int) - 1 = 0 := by simpa using e5
          obtain ⟨p', ep, fp⟩ := hfs.exit1 ho1 ha1 ⟨by omega, hm⟩
          rw [ep] at hp12 hgo
          obtain ⟨d', r', hp'⟩ := hgo.at
          have hp' : d'.p = p' := hp'
          subst hp12
          exact ⟨fun e => (by simp at e), fun _ => ⟨fun e => (by simp at e), fun _ => next ⟨d', r', fun _ => by rw [hp']; exact fp, fun h => absurd h (by omega)⟩⟩⟩
      · have e := of_decide_eq_false e
        have hm2 : m = 0 := by omega
        rw [wrap64 (by omega) (by omega)]
        exact Again.mk (i + 1, Y) rfl ⟨by show i + 1 ≤ ord.length; omega, d, r, hB hm2⟩ (show ord.length - (i + 1) < ord.length - i by omega)
    · have e := of_decide_eq_false e
      have hdr : ord.drop i = [] := List.drop_eq_nil_of_le (by omega)
      rw [hdr] at hso
      have hso : F0 d.p := hso
      have how : ownerP d.p o = (0, 0) := by unfold ownerP; rw [hso.es]; rfl
      have hhe : heldP d.p = [] := by unfold heldP; rw [hso.es]; simp
      have c := c42 r (by rw [hso.es]; intro e he; cases he) (by rw [hso.es]; show 0 < 2000000; omega)
      rw [hhe] at c
      refine ⟨_, c38 r o, ?_⟩
      rw [how]
      exact ⟨fun _ => ⟨fun _ => ⟨fun _ => ⟨_, c, rfl, rfl⟩, fun e => absurd e (by decide)⟩, fun e => absurd e (by decide)⟩, fun e => (by cases e)⟩
  have hF0 : F0 d0.p := by rw [hp0]; exact ⟨rfl, List.nodup_nil, fun x => rfl⟩
  refine Loops.intro (fun q : Nat × List Int × Tok × XH × Toks => S10_0 o threads true (some t) q.2.1 q.2.2.1 (q.1 : Int) q.2.2.2.1 q.2.2.2.2)
    (fun q => q.1 ≤ 60 ∧ q.2.1.length ≤ q.1 ∧ q.2.1.Nodup ∧ (∀ x ∈ q.2.1, 1 ≤ x) ∧ q.2.2.1.fresh q.2.2.2.2 ∧ ∃ d, MRep q.2.2.2.1 t d ∧ SO d.p o q.1 q.2.1) (fun q => 60 - q.1) (0, [], .exact, X3, ⟨0, []⟩) rfl
    ⟨Nat.zero_le _, Nat.le_refl _, List.nodup_nil, fun x hx => (by cases hx), trivial, d0, r0, hF0⟩ ?_
  rintro ⟨i, ord, tk, X, T⟩ ⟨hi0, hol0, hnd0, hpos0, htk0, d, r, hso0⟩
  have hi : i ≤ 60 := hi0
  have hol : ord.length ≤ i := hol0
  have hnd : ord.Nodup := hnd0
  have hpos : ∀ x ∈ ord, 1 ≤ x := hpos0
  have htk : tk.fresh T := htk0
  have hso : SO d.p o i ord := hso0
  have up : ∀ {m : Nat} {l : List Int} {q : PD}, m ≤ 1000 → SO q o m l → SO q o 1000 l := fun {m l q} hm h => by
    cases l with
    | nil => exact h
    | cons a r => obtain ⟨k, h1, h2⟩ := h; exact ⟨k, by omega, h2⟩
  have fin : Loops B10_5 M10_5 (Q10_5 fun v => v.norm = .bool true ∧ (V.bool true).nt = true) (S10_5 o true (some t) ord tk 0 X T) := second ord tk X T (by omega) hnd hpos ⟨d, r, up (by omega) hso⟩
  refine L10_0 o threads true (some t) ord tk i X T ⟨fun e => ⟨fun e2 => ?_, fun e2 => fin⟩, fun e => fin⟩
  have e := of_decide_eq_true e
  have e2 := of_decide_eq_true e2
  have hi' : i < threads.length := by omega
  rw [Int.toNat_natCast]
  have hmem : threads.getD i 0 ∈ threads := by
    simp only [List.getD, List.getElem?_eq_getElem hi', Option.getD_some]
    exact List.getElem_mem _
  have hpk := pickR_lt (threads.getD i 0) (n := 40) (by omega)
  obtain ⟨n, hn⟩ : ∃ n : Int, n = 1 + ((pickR (threads.getD i 0) 40 : Nat) : Int) := ⟨_, rfl⟩
  have w2 : IntKind.wrap .i64 ((1 : Int) + ((pickR (threads.getD i 0) 40 : Nat) : Int)) = n := by rw [wrap64 (by omega) (by omega)]; omega
  have hn1 : 1 ≤ n := by omega
  refine ⟨by omega, by omega, _, pick_ok (threads.getD i 0) (n := 40) (hth _ hmem) (by omega), ?_⟩
  rw [w2]
  refine Loops.intro (fun q : Nat × Bool => S10_2 o threads true (some t) ord tk (i : Int) n q.2 (q.1 : Int) X T) (fun q => q.1 ≤ ord.length ∧ (q.2 = true ↔ n ∈ ord.take q.1)) (fun q => ord.length - q.1) (0, false) rfl ⟨Nat.zero_le _, by simp⟩ ?_
  rintro ⟨j, kn⟩ ⟨hj0, hkn0⟩
  have hj : j ≤ ord.length := hj0
  have hkn : kn = true ↔ n ∈ ord.take j := hkn0
  refine L10_2 o threads true (some t) ord tk i n kn j X T ⟨fun e => ?_, fun e => ?_⟩
  · have e := of_decide_eq_true e
    have hj' : j < ord.length := by omega
    have htake := List.take_succ_eq_append_getElem hj'
    rw [wrap64 (by omega) (by omega)]
    refine ⟨fun ek => Again.mk (j + 1, true) rfl ⟨hj', ⟨fun _ => ?_, fun _ => rfl⟩⟩ (show ord.length - (j + 1) < ord.length - j by omega), fun ek => ⟨by omega, by omega, ?_⟩⟩
    · show n ∈ ord.take (j + 1)
      rw [htake]; exact List.mem_append_left _ (hkn.1 ek)
    · have hg : ord.getD ((j : Int)).toNat 0 = ord[j] := by rw [Int.toNat_natCast]; simp [List.getD, List.getElem?_eq_getElem hj']
      rw [hg]
      refine Again.mk (j + 1, ord[j] == n) rfl ⟨hj', ?_⟩ (show ord.length - (j + 1) < ord.length - j by omega)
      show (ord[j] == n) = true ↔ n ∈ ord.take (j + 1)
      rw [htake, List.mem_append, List.mem_singleton, beq_iff_eq]
      constructor
      · intro h; exact .inr h.symm
      · rintro (h | h)
        · rw [hkn.2 h] at ek; cases ek
        · exact h.symm
  · have e := of_decide_eq_false e
    have hjl : j = ord.length := by omega
    rw [hjl, List.take_length] at hkn
    have hs : short d.p := hso.short (by omega)
    refine (c31 r hs o n).mono ?_
    rintro p6 X7 ⟨hp6, hgo⟩
    rw [wrap64 (x := (i : Int) + 1) (by omega) (by omega)]
    have again : ∀ (ord' : List Int) (tk' : Tok) (T' : Toks), ord'.length ≤ i + 1 → ord'.Nodup → (∀ x ∈ ord', 1 ≤ x) → tk'.fresh T' → (∃ d', MRep X7 t d' ∧ SO d'.p o (i + 1) ord') →
        Again (fun q : Nat × List Int × Tok × XH × Toks => S10_0 o threads true (some t) q.2.1 q.2.2.1 (q.1 : Int) q.2.2.2.1 q.2.2.2.2)
          (fun q => q.1 ≤ 60 ∧ q.2.1.length ≤ q.1 ∧ q.2.1.Nodup ∧ (∀ x ∈ q.2.1, 1 ≤ x) ∧ q.2.2.1.fresh q.2.2.2.2 ∧ ∃ d, MRep q.2.2.2.1 t d ∧ SO d.p o q.1 q.2.1) (fun q => 60 - q.1) (60 - i) (S10_0 o threads true (some t) ord' tk' ((i : Int) + 1) X7 T') :=
      fun ord' tk' T' a b c f g => Again.mk (i + 1, ord', tk', X7, T') rfl ⟨by show i + 1 ≤ 60; omega, a, b, c, f, g⟩ (show 60 - (i + 1) < 60 - i by omega)
    cases kn with
    | false =>
      have hno : n ∉ ord := fun h => by have := hkn.2 h; cases this
      have app : (∃ d', MRep X7 t d' ∧ SO d'.p o (i + 1) (ord ++ [n])) → _ := fun hh => again (ord ++ [n]) (.tk T.n) ⟨T.n + 1, T.n :: Tok.drop tk T.l⟩ (by rw [List.length_append]; simp; omega)
        (List.nodup_append.2 ⟨hnd, by simp, fun x hx y hy => by rw [List.mem_singleton] at hy; subst hy; rintro rfl; exact hno hx⟩)
        (fun x hx => (List.mem_append.1 hx).elim (hpos x) fun h => by rw [List.mem_singleton] at h; rw [h]; exact hn1) (Tok.fresh_new ..) hh
      refine ⟨fun _ => ?_, fun e => (by cases e)⟩
      cases ord with
      | nil =>
        obtain ⟨p', ep, fp⟩ := F0.enter (o := o) (n := n) hso ho1 hn1
        rw [ep] at hp6 hgo
        obtain ⟨d', r', hp'⟩ := hgo.at
        have hp' : d'.p = p' := hp'
        subst hp6
        exact ⟨fun e => (by simp at e), fun _ => ⟨fun e => (by simp at e), fun _ => ⟨htk.own, by show (0 + 1) * 8 ≤ 140737488355328; omega, app ⟨d', r', by rw [hp']; exact ⟨1, by omega, fp⟩⟩⟩⟩⟩
      | cons a rr =>
        obtain ⟨k, hk, hfs⟩ := hso
        obtain ⟨p', ep, fp⟩ := hfs.enter1 (n := n) ho1 hn1 (fun h => hno (by rw [h]; simp)) (fun h => hno (List.mem_cons_of_mem _ h))
        rw [ep] at hp6 hgo
        obtain ⟨d', r', hp'⟩ := hgo.at
        have hp' : d'.p = p' := hp'
        subst hp6
        refine ⟨fun e => (by simp at e), fun _ => ⟨fun e => ?_, fun _ => ⟨htk.own, by show ((a :: rr).length + 1) * 8 ≤ 140737488355328; omega, app ⟨d', r', by rw [hp']; exact ⟨k, by omega, fp⟩⟩⟩⟩⟩
        have e : (!(false == ((((a :: rr).length : Nat) : Int) == 0))) = true := e
        simp at e
        omega
    | true =>
      have hin := hkn.1 rfl
      refine ⟨fun e => (by cases e), fun _ => ?_⟩
      cases ord with
      | nil => cases hin
      | cons a rr =>
        obtain ⟨k, hk, hfs⟩ := hso
        rw [List.nodup_cons] at hnd
        refine ⟨by decide, by show (0 : Int) < (((a :: rr).length : Nat) : Int); simp only [List.length_cons]; omega, fun ea => ?_, fun ea => ?_⟩
        · have ea : a = n := by
            have : (a == n) = true := ea
            simpa using this
          subst ea
          obtain ⟨p', ep, fp⟩ := hfs.enter2 ho1 hn1 hnd.1 (by omega)
          rw [ep] at hp6 hgo
          obtain ⟨d', r', hp'⟩ := hgo.at
          have hp' : d'.p = p' := hp'
          subst hp6
          exact ⟨fun e => (by simp at e), fun _ => ⟨fun e => (by simp at e), fun _ => again (a :: rr) tk T (by omega) (List.nodup_cons.2 hnd) hpos htk ⟨d', r', by rw [hp']; exact ⟨k + 1, by omega, fp⟩⟩⟩⟩
        · have ea : a ≠ n := by
            have : (a == n) = false := ea
            simpa using this
          have hr : n ∈ rr := (List.mem_cons.1 hin).elim (fun h => absurd h.symm ea) id
          rw [hfs.enter3 ho1 hn1 hr] at hp6 hgo
          obtain ⟨d', r', hp'⟩ := hgo.at
          have hp' : d'.p = d.p := hp'
          subst hp6
          exact ⟨fun e => (by simp at e), fun _ => again (a :: rr) tk T (by omega) (List.nodup_cons.2 hnd) hpos htk ⟨d', r', by rw [hp']; exact ⟨k, by omega, hfs⟩⟩⟩

theorem law_MonitorFair (object : Int) (threads : List Int) (f0 : Cd.wf (.int .i64) object) (f1 : Cd.wf (.slice (.int .i64)) threads) : PC Try.prog 10 [.int .i64 object, .list (.int .i64) threads .no] (.bool true) :=
  p10 object threads f0 f1.2 f1.1

end Go.Proofs.Ytefpoodhdfggdaa.AB

