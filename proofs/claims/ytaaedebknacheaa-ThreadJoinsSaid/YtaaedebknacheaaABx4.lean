/- Parts of the proof: an evaluator of code on plain values, and that it is right of the model. -/
import Derived.Test.YtaaedebknacheaaABx3
import Derived.ChangeArms
import Derived.Below
set_option linter.unusedVariables false
set_option linter.unusedSimpArgs false
namespace Go.Proofs.Ytaaedebknacheaa.AB
open Go

/-- all of memory, frozen -/
def ghW (w : World) : Gh := ⟨fun b o => w.cell? ⟨b, o, none⟩, fun r => match w.heap[r]? with
  | some (.map ents _) => some (ents.toList.map fun m => (m.key, m.val))
  | _ => none, fun _ => none, fun _ _ => none⟩

theorem ghW_ok (w : World) : FzOK (ghW w) w := by
  refine ⟨fun b o v h => h, fun r es h => ?_⟩
  simp only [ghW] at h
  split at h
  · rename_i ents ck he
    cases h
    exact ⟨ents, ck, he, rfl⟩
  · cases h

mutual
/-- does a type fit a code? (fuel) -/
def fitB (tt : TT) : Nat → Cd → Nat → Bool
  | 0, _, _ => false
  | n + 1, c, t => (tt.at t).ok && match c, (tt.at t).k with
    | .int k, .int k' => decide (k = k')
    | .bool, .bool => true
    | .str, .str => true
    | .slice c, .slice e => Nat.beq (tt.at e).size c.sz && Nat.blt 0 c.sz && fitB tt n c e
    | c, .strct fs => Nat.beq (tt.at t).size c.sz && fitFs tt n 0 c fs
    | _, _ => false
def fitFs (tt : TT) : Nat → Nat → Cd → List (Nat × Nat) → Bool
  | 0, _, _, _ => false
  | n + 1, off, c, fs => match fs with
    | [] => (match c with
      | .unit => true
      | _ => false)
    | [(o, t)] => (match c with
      | .pair a .unit => Nat.beq o off && Nat.beq (tt.at t).size a.sz && fitB tt n a t
      | c => Nat.beq o off && Nat.beq (tt.at t).size c.sz && fitB tt n c t)
    | (o, t) :: r => match c with
      | .pair a b => Nat.beq o off && Nat.beq (tt.at t).size a.sz && fitB tt n a t && fitFs tt n (off + a.sz) b r
      | _ => false
end

/-- the bounds that data of the start keep -/
def Cd.wf : (c : Cd) → c.T → Prop
  | .unit, _ => True
  | .int k, n => k.min ≤ (n : Int) ∧ (n : Int) ≤ k.max
  | .bool, _ => True
  | .str, s => (s : List UInt8).length ≤ maxLen
  | .slice c, l => List.length l ≤ maxLen ∧ ∀ x ∈ (l : List c.T), c.wf x
  | .pair a b, p => a.wf p.1 ∧ b.wf p.2

/-- how much there is of data -/
def Cd.wt : (c : Cd) → c.T → Nat
  | .unit, _ => 0
  | .int _, _ => 0
  | .bool, _ => 0
  | .str, s => (s : List UInt8).length
  | .slice c, l => List.length l + (List.map c.wt l).sum
  | .pair a b, p => a.wt p.1 + b.wt p.2

/-- a measure of what is read -/
structure Bk (H : Type) where
  b : DataW H → Nat
  bs : List (DataW H) → Nat
  nil : bs [] = 0
  cons : ∀ d r, bs (d :: r) = b d + bs r
  pos : ∀ d, 1 ≤ b d
  slice : ∀ e s, bs e + 1 ≤ b (.slice e s)
  agg : ∀ l, bs l + 1 ≤ b (.agg l)
  str : ∀ l, l.length + 1 ≤ b (.lit (.string l))

theorem bk_le2 {H α : Type} (B : Bk H) (f : α → Nat) : ∀ (l : List α) (ds : List (DataW H)), l.length = ds.length → (∀ (i : Nat) v d, l[i]? = some v → ds[i]? = some d → f v + 1 ≤ B.b d) → l.length + (l.map f).sum ≤ B.bs ds
  | [], [], _, _ => Nat.zero_le _
  | v :: l, d :: ds, hl, h => by
    rw [B.cons]
    have h0 := h 0 v d rfl rfl
    have := bk_le2 B f l ds (by simpa using hl) (fun i v d hv hd => h (i + 1) v d (by simpa using hv) (by simpa using hd))
    simp only [List.map_cons, List.sum_cons, List.length_cons]
    omega
  | [], _ :: _, hl, _ => by simp at hl
  | _ :: _, [], hl, _ => by simp at hl

def sumN (f : Nat → Nat) : Nat → Nat
  | 0 => 0
  | n + 1 => f 0 + sumN (fun i => f (i + 1)) n

theorem sumN_bs {H : Type} (B : Bk H) (z : DataW H) : ∀ (ds : List (DataW H)), sumN (fun i => B.b (ds.getD i z)) ds.length = B.bs ds
  | [] => by rw [B.nil]; rfl
  | d :: ds => by
    rw [B.cons, ← sumN_bs B z ds]
    rfl

theorem pick_list {α : Type} {Q : Nat → α → Prop} : ∀ n, (∀ i, i < n → ∃ v, Q i v) → ∃ l : List α, l.length = n ∧ ∀ i v, l[i]? = some v → Q i v
  | 0, _ => ⟨[], rfl, fun i v h => by simp at h⟩
  | n + 1, h => by
    obtain ⟨l, h1, h2⟩ := pick_list n fun i hi => h i (by omega)
    obtain ⟨v, hv⟩ := h n (by omega)
    refine ⟨l ++ [v], by simp [h1], fun i u hu => ?_⟩
    rcases Nat.lt_or_ge i l.length with hi | hi
    · rw [List.getElem?_append_left hi] at hu; exact h2 i u hu
    · rw [List.getElem?_append_right hi] at hu
      have hi0 : i - l.length = 0 := by
        have := (List.getElem?_eq_some_iff.1 hu).1
        simp at this; omega
      rw [hi0] at hu
      simp at hu
      have : i = n := by omega
      subst this; subst hu; exact hv

theorem cells?_get {w : World} {base n : Nat} {ad : Addr} {cs : List Value} (h : w.cells? base ad n = some cs) : cs.length = n ∧ ∀ (j : Nat) u, cs[j]? = some u → w.cell? (ad.add j) = some u := by
  unfold World.cells? at h
  split at h
  · refine ⟨by simpa using mapM_some_length h, fun j u hu => ?_⟩
    have hj : j < n := by
      have := (List.getElem?_eq_some_iff.1 hu).1
      rw [show cs.length = n by simpa using mapM_some_length h] at this
      exact this
    have := mapM_some_get h j j (by simp [hj])
    rw [this]; exact hu
  · cases h

theorem cell_spot {w : World} {ad : Addr} {u : Value} (h : w.cell? ad = some u) : ad.spot = none := by
  unfold World.cell? at h
  split at h
  · cases hs : ad.spot with
    | none => rfl
    | some z => rw [hs] at h; simp at h
  · cases h

theorem add_cell {w : World} {ad : Addr} {x j : Nat} {u : Value} (h : w.cell? ((ad.add x).add j) = some u) : w.cell? ⟨ad.block, ad.off + (x + j), none⟩ = some u ∧ (x + j = 0 → ad.spot = none) := by
  by_cases hx : x = 0
  · by_cases hj : j = 0
    · subst hx hj
      have h : w.cell? ad = some u := by simpa [Addr.add] using h
      have hs := cell_spot h
      obtain ⟨b, o, sp⟩ := ad
      simp only at hs
      subst hs
      exact ⟨h, fun _ => rfl⟩
    · subst hx
      exact ⟨by simpa [Addr.add, hj] using h, fun e => by omega⟩
  · refine ⟨?_, fun e => by omega⟩
    by_cases hj : j = 0
    · subst hj
      simpa [Addr.add, hx] using h
    · simpa [Addr.add, hx, hj, Nat.add_assoc] using h

section
variable {P : Program} {tt : TT} {w : World} {H : Type} {encH : TypeId × Value → H} {base : Nat} {spare : Nat → Bool} {held : Bool}

def Fits (w : World) (c : Cd) (v : c.T) (off : Nat) (cs : List Value) : Prop :=
  c.wf v ∧ ∀ (j : Nat) q u, (c.cells v)[j]? = some q → cs[off + j]? = some u → VR (ghW w) q u ∧ u.oneCell' = true

theorem cellsOf_eq (htt : TTOK P tt) {t : Nat} (hok : (tt.at t).ok = true) : P.cellsOf t = (tt.at t).size := by
  obtain ⟨i, z, h1, _, h3, _⟩ := (htt t hok).info
  unfold Program.cellsOf
  rw [h1]; exact h3

theorem trod_VR (htt : TTOK P tt) : ∀ n,
    (∀ (c : Cd) (t : Nat), fitB tt n c t = true → ∀ fuel cs x, DataW.trod encH P w base spare held fuel t cs = some x → ∃ v : c.T, Fits w c v 0 cs ∧ ∀ B : Bk H, c.wt v + 1 ≤ B.b x.1) ∧
    (∀ (off : Nat) (c : Cd) (fs : List (Nat × Nat)), fitFs tt n off c fs = true → ∀ (cs : List Value) (m : Nat) (xs : Nat → DataW H × List MemPlace),
      (∀ (i : Nat) o t, fs[i]? = some (o, t) → DataW.trod encH P w base spare held m t ((cs.drop o).take (tt.at t).size) = some (xs i)) → ∃ v : c.T, Fits w c v off cs ∧ ∀ B : Bk H, c.wt v ≤ sumN (fun i => B.b (xs i).1) fs.length) := by
  intro n
  induction n with
  | zero => exact ⟨fun c t h => by simp [fitB] at h, fun off c fs h => by simp [fitFs] at h⟩
  | succ n ih =>
    obtain ⟨ih1, ih2⟩ := ih
    refine ⟨fun c t h fuel cs x hx => ?_, fun off c fs h cs m xs hm => ?_⟩
    · unfold fitB at h
      rw [Bool.and_eq_true] at h
      obtain ⟨hok, h⟩ := h
      obtain ⟨d, hd, hk⟩ := (htt t hok).und
      split at h
      · rename_i k k' hkt
        have hkk : k = k' := of_decide_eq_true h
        subst hkk
        rw [hkt] at hk
        simp only [KOK] at hk
        subst hk
        obtain ⟨z, rfl, _, hwf⟩ := DataW.trod_int hd hx
        simp only [Lit.wf, Bool.and_eq_true, decide_eq_true_eq] at hwf
        refine ⟨z, ⟨hwf, fun j q u hq hu => ?_⟩, fun B => B.pos _⟩
        cases j with
        | zero => simp [Cd.cells] at hq hu; subst hq hu; exact ⟨.int k z, rfl⟩
        | succ j => simp [Cd.cells] at hq
      · rename_i hkt
        rw [hkt] at hk
        simp only [KOK] at hk
        subst hk
        obtain ⟨b, rfl, _⟩ := DataW.trod_bool hd hx
        refine ⟨b, ⟨trivial, fun j q u hq hu => ?_⟩, fun B => B.pos _⟩
        cases j with
        | zero => simp [Cd.cells] at hq hu; subst hq hu; exact ⟨.bool b, rfl⟩
        | succ j => simp [Cd.cells] at hq
      · rename_i hkt
        rw [hkt] at hk
        simp only [KOK] at hk
        subst hk
        obtain ⟨z, rfl, rfl, hl⟩ := DataW.trod_string hd hx
        refine ⟨z.data.toList, ⟨hl, fun j q u hq hu => ?_⟩, fun B => B.str z.data.toList⟩
        cases j with
        | zero =>
          simp [Cd.cells] at hq hu; subst hq hu
          have := VR.str (G := ghW w) z.data.toList
          exact ⟨this, rfl⟩
        | succ j => simp [Cd.cells] at hq
      · rename_i c' e hkt
        rw [hkt] at hk
        simp only [KOK] at hk
        subst hk
        simp only [Bool.and_eq_true] at h
        obtain ⟨⟨h1, h2⟩, h3⟩ := h
        have hoke : (tt.at e).ok = true := by
          cases n with
          | zero => simp [fitB] at h3
          | succ n => unfold fitB at h3; rw [Bool.and_eq_true] at h3; exact h3.1
        have hsz : P.cellsOf e = c'.sz := by rw [cellsOf_eq htt hoke]; exact Nat.eq_of_beq_eq_true h1
        rw [Nat.blt_eq] at h2
        rcases DataW.trod_slice hd hx with ⟨rfl, _⟩ | ⟨ad, len, cap, elems, rest, m, _, rfl, rfl, _, hlc, hcap, hel, helem, _, _⟩
        · refine ⟨[], ⟨⟨Nat.zero_le _, fun x hx => by cases hx⟩, fun j q u hq hu => ?_⟩, fun B => B.pos _⟩
          cases j with
          | zero =>
            simp [Cd.cells] at hq hu; subst hq hu
            exact ⟨VR.list c' [] .no none 0 0 0 (fun _ => Go.undef) (fun h => absurd rfl h) (Nat.le_refl _) (fun i x hx => by simp at hx) (fun i x hx => by simp at hx) (fun i x hx => by simp at hx) trivial, rfl⟩
          | succ j => simp [Cd.cells] at hq
        · have each : ∀ i, i < len → ∃ v : c'.T, (c'.wf v ∧ ∀ (j : Nat) q, (c'.cells v)[j]? = some q → ∃ u, w.cell? ((ad.add (i * c'.sz)).add j) = some u ∧ VR (ghW w) q u ∧ u.oneCell' = true) ∧ ∀ (d : DataW H × List MemPlace), elems[i]? = some d → ∀ B : Bk H, c'.wt v + 1 ≤ B.b d.1 := by
            intro i hi
            have he := helem i hi
            rw [hsz, List.getElem?_eq_getElem (by omega), Option.bind_eq_some_iff] at he
            obtain ⟨ci, hci, htr⟩ := he
            obtain ⟨v, ⟨hv1, hv2⟩, hv3⟩ := ih1 c' e h3 _ _ _ htr
            obtain ⟨hl, hg⟩ := cells?_get hci
            refine ⟨v, ⟨hv1, fun j q hq => ?_⟩, fun d hd B => by rw [List.getElem?_eq_getElem (by omega)] at hd; cases hd; exact hv3 B⟩
            have hj : j < ci.length := by
              rw [hl, ← Cd.length_cells c' v]; exact (List.getElem?_eq_some_iff.1 hq).1
            have hu : ci[j]? = some ci[j] := List.getElem?_eq_getElem hj
            obtain ⟨r1, r2⟩ := hv2 j q ci[j] hq (by rw [Nat.zero_add]; exact hu)
            exact ⟨ci[j], hg j _ hu, r1, r2⟩
          obtain ⟨l, hl1, hl2⟩ := pick_list len each
          have hat0 : ∀ (k : Nat) q, (l.flatMap c'.cells)[k]? = some q → ∃ u, w.cell? ⟨ad.block, ad.off + k, none⟩ = some u ∧ (VR (ghW w) q u ∧ u.oneCell' = true) ∧ (k = 0 → ad.spot = none) := by
            intro k q hq
            obtain ⟨i, j, x, rfl, hj, hx, hq'⟩ := flat_split c' l hq
            obtain ⟨u, r1, r2⟩ := (hl2 i x hx).1.2 j q hq'
            obtain ⟨k1, k2⟩ := add_cell r1
            exact ⟨u, k1, r2, k2⟩
          refine ⟨l, ⟨⟨by omega, fun x hx => ?_⟩, fun j q u hq hu => ?_⟩, fun B => ?_⟩
          · obtain ⟨i, hi, rfl⟩ := List.getElem_of_mem hx
            exact (hl2 i _ (List.getElem?_eq_getElem hi)).1.1
          · cases j with
            | succ j => simp [Cd.cells] at hq
            | zero =>
              simp [Cd.cells] at hq hu
              subst hq hu
              have hat : ∀ (k : Nat) q, (l.flatMap c'.cells)[k]? = some q → ∃ u, w.cell? ⟨ad.block, ad.off + k, none⟩ = some u ∧ VR (ghW w) q u ∧ u.oneCell' = true := by
                intro k q hq
                obtain ⟨u, r1, r2, _⟩ := hat0 k q hq
                exact ⟨u, r1, r2⟩
              have ha : l ≠ [] → some ad = some ⟨ad.block, ad.off, none⟩ := by
                intro hne
                cases l with
                | nil => exact absurd rfl hne
                | cons y l =>
                  have hfl : 0 < ((y :: l).flatMap c'.cells).length := by rw [length_flat]; exact Nat.mul_pos (by simp) h2
                  obtain ⟨_, _, _, this⟩ := hat0 0 _ (List.getElem?_eq_getElem hfl)
                  have := this rfl
                  cases ad
                  simp at this
                  subst this; rfl
              have hvr := VR.list (G := ghW w) c' l .no (some ad) cap ad.block ad.off (fun k => (w.cell? ⟨ad.block, ad.off + k, none⟩).getD Go.undef) ha (by omega)
                (fun k q hq => by obtain ⟨u, r1, _⟩ := hat k q hq; show w.cell? _ = _; rw [r1]; rfl)
                (fun k q hq => by obtain ⟨u, r1, r2, r3⟩ := hat k q hq; rw [r1]; exact r3)
                (fun k q hq => by obtain ⟨u, r1, r2, r3⟩ := hat k q hq; rw [r1]; exact r2) trivial
              rw [hl1] at hvr
              exact ⟨hvr, rfl⟩
          · have h1 := B.slice (elems.map (·.1)) (rest.map (·.1))
            have h3 := bk_le2 B c'.wt l (elems.map (·.1)) (by simp [hl1, hel]) (fun i v d hv hd => by
              rw [List.getElem?_map, Option.map_eq_some_iff] at hd
              obtain ⟨d', hd', rfl⟩ := hd
              exact (hl2 i v hv).2 d' hd' B)
            simp only [Cd.wt]
            omega
      · rename_i fs hkt
        rw [hkt] at hk
        obtain ⟨fields, rfl, hfl, hfs⟩ := hk
        rw [Bool.and_eq_true] at h
        obtain ⟨xs, m, _, rfl, hcl, hxl, hall⟩ := DataW.trod_struct hd hx
        obtain ⟨v, hv, hv2⟩ := ih2 0 _ fs h.2 cs m (fun i => xs.getD i (.nil, [])) (fun i o t' hi => by
          obtain ⟨f, q1, rfl, rfl, q4⟩ := hfs i o t' hi
          have := hall i f q1
          rw [cellsOf_eq htt q4] at this
          have hi' : i < xs.length := by
            rw [hxl, ← hfl]; exact (List.getElem?_eq_some_iff.1 hi).1
          rw [List.getElem?_eq_getElem hi'] at this
          rw [this]
          simp [List.getD, hi'])
        refine ⟨v, hv, fun B => ?_⟩
        have h1 := hv2 B
        have h2 := B.agg (xs.map (·.1))
        have h3 := sumN_bs B .nil (xs.map (·.1))
        have h4 : (fun i => B.b ((xs.map (·.1)).getD i .nil)) = fun i => B.b (xs.getD i (.nil, [])).1 := by
          funext i
          simp only [List.getD, List.getElem?_map]
          cases xs[i]? <;> rfl
        have h5 : fs.length = (xs.map (·.1)).length := by rw [List.length_map, hxl, ← hfl]
        rw [h4, ← h5] at h3
        show _ ≤ B.b (.agg (xs.map (·.1)))
        omega
      · cases h
    · have one : ∀ {a : Cd} {o t : Nat}, fitB tt n a t = true → (tt.at t).size = a.sz → o = off → ∀ x, DataW.trod encH P w base spare held m t ((cs.drop o).take (tt.at t).size) = some x → ∃ v : a.T, Fits w a v off cs ∧ ∀ B : Bk H, a.wt v + 1 ≤ B.b x.1 := by
        rintro a o t h1 h2 rfl x hx
        obtain ⟨v, ⟨hv1, hv2⟩, hv3⟩ := ih1 a t h1 _ _ _ hx
        refine ⟨v, ⟨hv1, fun j q u hq hu => hv2 j q u hq ?_⟩, hv3⟩
        have hj : j < a.sz := by rw [← Cd.length_cells a v]; exact (List.getElem?_eq_some_iff.1 hq).1
        rw [Nat.zero_add, List.getElem?_take, if_pos (by omega), List.getElem?_drop]
        exact hu
      unfold fitFs at h
      split at h
      · split at h
        · exact ⟨(), ⟨trivial, fun j q u hq => by simp [Cd.cells] at hq⟩, fun B => Nat.zero_le _⟩
        · cases h
      · rename_i o t
        split at h
        · rename_i a
          simp only [Bool.and_eq_true] at h
          obtain ⟨⟨h1, h2⟩, h3⟩ := h
          obtain ⟨v, ⟨hv1, hv2⟩, hv3⟩ := one h3 (Nat.eq_of_beq_eq_true h2) (Nat.eq_of_beq_eq_true h1) _ (hm 0 o t rfl)
          refine ⟨(v, ()), ⟨⟨hv1, trivial⟩, fun j q u hq hu => hv2 j q u ?_ hu⟩, fun B => by have := hv3 B; simp only [Cd.wt, sumN, List.length_cons, List.length_nil]; omega⟩
          simpa [Cd.cells] using hq
        · simp only [Bool.and_eq_true] at h
          obtain ⟨⟨h1, h2⟩, h3⟩ := h
          obtain ⟨v, hv1, hv3⟩ := one h3 (Nat.eq_of_beq_eq_true h2) (Nat.eq_of_beq_eq_true h1) _ (hm 0 o t rfl)
          exact ⟨v, hv1, fun B => by have := hv3 B; simp only [sumN, List.length_cons, List.length_nil]; omega⟩
      · rename_i o t r _
        split at h
        · rename_i a b
          simp only [Bool.and_eq_true] at h
          obtain ⟨⟨⟨h1, h2⟩, h3⟩, h4⟩ := h
          obtain ⟨v, ⟨hv1, hv2⟩, hv3⟩ := one h3 (Nat.eq_of_beq_eq_true h2) (Nat.eq_of_beq_eq_true h1) _ (hm 0 o t rfl)
          obtain ⟨u', ⟨hu1, hu2⟩, hu3⟩ := ih2 _ _ _ h4 cs m (fun i => xs (i + 1)) (fun i o t hi => hm (i + 1) o t (by simpa using hi))
          refine ⟨(v, u'), ⟨⟨hv1, hu1⟩, fun j q u hq hu => ?_⟩, fun B => by have := hv3 B; have := hu3 B; simp only [Cd.wt, sumN, List.length_cons] at *; omega⟩
          simp only [Cd.cells, List.getElem?_append, Cd.length_cells] at hq
          split at hq
          · exact hv2 j q u hq hu
          · rename_i hj
            refine hu2 (j - a.sz) q u hq ?_
            rw [show off + a.sz + (j - a.sz) = off + j by omega]; exact hu
        · cases h

end
end Go.Proofs.Ytaaedebknacheaa.AB

set_option linter.unusedVariables false
set_option linter.unusedSimpArgs false
namespace Go.Proofs.Ytaaedebknacheaa.AB
open Go Go.RowKit

theorem vr_str_len {G : Gh} {l : List UInt8} {a : ByteArray} (h : VR G (.str l) (.string a)) : l.length = a.data.toList.length := by
  cases h; simp

section
variable {P : Program} {tt : TT} {w : World} {H : Type} {encH : TypeId × Value → H} {base : Nat} {spare : Nat → Bool} {held : Bool}

/-- an argument of one cell, opened; how much there is of it -/
theorem open_oneB (htt : TTOK P tt) {n : Nat} {c : Cd} {t : Nat} (hf : fitB tt n c t = true) (hc : c.isAgg = false) {v : Value} (hv : v.cells.toList = [v]) {d : DataW H} {ps : List MemPlace}
    (h : DataW.Trod encH P w base spare held t v d ps) : ∃ x : c.T, c.wf x ∧ VR (ghW w) (c.enc x) v ∧ ∀ B : Bk H, c.wt x + 1 ≤ B.b d := by
  obtain ⟨fuel, h⟩ := h
  obtain ⟨x, ⟨hx1, hx2⟩, hx3⟩ := (trod_VR htt n).1 c t hf fuel _ _ h
  refine ⟨x, hx1, ?_, hx3⟩
  rw [hv] at hx2
  have one : ∀ q, (c.cells x)[0]? = some q → VR (ghW w) q v := fun q hq => (hx2 0 q v hq rfl).1
  cases c with
  | unit => cases hc
  | pair a b => cases hc
  | int k => exact one _ rfl
  | bool => exact one _ rfl
  | str => exact one _ rfl
  | slice c => exact one _ rfl

/-- an argument of one cell, opened -/
theorem open_one (htt : TTOK P tt) {n : Nat} {c : Cd} {t : Nat} (hf : fitB tt n c t = true) (hc : c.isAgg = false) {v : Value} (hv : v.cells.toList = [v]) {d : DataW H} {ps : List MemPlace}
    (h : DataW.Trod encH P w base spare held t v d ps) : ∃ x : c.T, c.wf x ∧ VR (ghW w) (c.enc x) v :=
  let ⟨x, h1, h2, _⟩ := open_oneB htt hf hc hv h
  ⟨x, h1, h2⟩

theorem wt_le {α : Type} (f : α → Nat) {l : List α} {x : α} (h : x ∈ l) : f x ≤ (l.map f).sum := by
  induction l with
  | nil => cases h
  | cons y l ih =>
    simp only [List.map_cons, List.sum_cons]
    rcases List.mem_cons.1 h with rfl | h
    · omega
    · have := ih h; omega

/-- the law's contract, at the start -/
theorem PC.law {f : FuncId} {args : List V} (h : PC P f args (.bool true)) {vs : Array Value} (hl : args.length = vs.size)
    (hr : ∀ (i : Nat) x y, args[i]? = some x → vs[i]? = some y → VR (ghW w) x y) :
    Calls P f vs w fun e w' => e = .returned (.bool true) ∧ Below w.heap.size w w' := by
  refine (h (ghW w) w vs (ghW_ok w) hl hr).2.mono ?_
  rintro e w' ⟨v, G', rfl, hv, _, _, _, hs⟩
  have hv' : v = .bool true := by cases hv; rfl
  subst hv'
  exact ⟨rfl, ⟨hs.os, hs.tape, hs.output, hs.size, fun k hk => hs.block k (fun hm => by
    have : w.heap.size ≤ k := hm
    omega)⟩⟩

end
end Go.Proofs.Ytaaedebknacheaa.AB

set_option linter.unusedVariables false
set_option linter.unusedSimpArgs false
namespace Go.Proofs.Ytaaedebknacheaa.AB
open Go

/-! the heap, in plain words -/

variable {X X' : XH}

theorem at_lt {k : Nat} {o : XO} (h : X.at k = some o) : k < X.n := (at_get h).2

theorem at_set (X : XH) (h k : Nat) (o : XO) : (X.set h o).at k = if k = h ∧ h < X.n then some o else X.at k := by
  unfold XH.at XH.set
  dsimp only
  cases hb : Nat.blt k X.n with
  | true =>
    rw [Nat.blt_eq] at hb
    by_cases e : k = h
    · subst e; simp [hb]
    · simp [e]
  | false =>
    have hb' : ¬ k < X.n := by rw [← Nat.blt_eq, hb]; decide
    rw [if_neg (fun e : k = h ∧ h < X.n => hb' (by omega))]

theorem at_set_self {h : Nat} {o p : XO} (hp : X.at h = some p) : (X.set h o).at h = some o := by
  rw [at_set, if_pos ⟨rfl, at_lt hp⟩]

theorem at_set_ne {h k : Nat} {o : XO} (hk : k ≠ h) : (X.set h o).at k = X.at k := by
  rw [at_set, if_neg (fun e => hk e.1)]

theorem at_add_new (X : XH) (o : XO) : (X.add o).at X.n = some o := at_of (by simp [XH.add]) (Nat.lt_succ_self _)

theorem at_add_old {k : Nat} {o : XO} (h : k < X.n) : (X.add o).at k = X.at k := by
  have h1 : Nat.blt k (X.add o).n = true := by rw [Nat.blt_eq]; exact Nat.lt_succ_of_lt h
  have h2 : Nat.blt k X.n = true := by rw [Nat.blt_eq]; exact h
  unfold XH.at; rw [h1, h2]
  simp only [XH.add]; rw [if_neg (by omega)]

/-- a box -/
def Box (X : XH) (c : Xd) (h : Nat) (a : c.T) : Prop := X.at h = some (.arr c [a])

theorem Box.arr {c : Xd} {h : Nat} {a : c.T} (hb : Box X c h a) : X.arr c h = some [a] := arr_at.2 hb
theorem Box.el {c : Xd} {h : Nat} {a : c.T} (hb : Box X c h a) : X.el c h 0 = some a := by
  unfold XH.el; rw [hb.arr]; rfl
theorem Box.get {c : Xd} {h : Nat} {a b : c.T} (hb : Box X c h a) (he : X.el c h 0 = some b) : b = a := by
  rw [hb.el] at he; exact (Option.some.inj he).symm
theorem Box.setEl {c : Xd} {h : Nat} {a b : c.T} (hb : Box X c h a) : X.setEl c h 0 b = X.set h (.arr c [b]) := by
  unfold XH.setEl; rw [hb.arr]; rfl
theorem Box.lt {c : Xd} {h : Nat} {a : c.T} (hb : Box X c h a) : h < X.n := at_lt hb
theorem Box.set {c : Xd} {h : Nat} {a b : c.T} (hb : Box X c h a) : Box (X.set h (.arr c [b])) c h b := at_set_self hb
theorem Box.keep {c : Xd} {h : Nat} {a : c.T} (hb : Box X c h a) (e : X'.at h = X.at h) : Box X' c h a := e.trans hb

/-- the handle of a slice -/
def hl : Option SlH → List Nat
  | none => []
  | some s => [s.h]

/-- a slice, and what it holds -/
def SlAt (X : XH) (c : Xd) (x : Option SlH) (l : List c.T) : Prop :=
  match x with
  | none => l = []
  | some s => ∃ a, X.at s.h = some (.arr c a) ∧ s.off + s.cap ≤ a.length ∧ s.len ≤ s.cap ∧ l = (a.drop s.off).take s.len

variable {c : Xd} {x : Option SlH} {l : List c.T}

theorem SlAt.view (h : SlAt X c x l) : X.view c x = some l := by
  cases x with
  | none => simp only [SlAt] at h; subst h; rfl
  | some s =>
    obtain ⟨a, h1, h2, h3, h4⟩ := h
    simp only [XH.view, arr_at.2 h1, h4]

theorem SlAt.len (h : SlAt X c x l) : slN x = l.length := by
  cases x with
  | none => simp only [SlAt] at h; subst h; rfl
  | some s =>
    obtain ⟨a, h1, h2, h3, h4⟩ := h
    subst h4
    simp only [slN, List.length_take, List.length_drop]; omega

theorem SlAt.le (h : SlAt X c x l) : slN x ≤ slC x := by
  cases x with
  | none => exact Nat.le_refl _
  | some s => exact h.choose_spec.2.2.1

theorem SlAt.lt (h : SlAt X c x l) : ∀ k ∈ hl x, k < X.n := by
  cases x with
  | none => simp [hl]
  | some s =>
    obtain ⟨a, h1, _⟩ := h
    intro k hk
    simp only [hl, List.mem_singleton] at hk
    subst hk; exact at_lt h1

theorem SlAt.keep (h : SlAt X c x l) (e : ∀ k ∈ hl x, X'.at k = X.at k) : SlAt X' c x l := by
  cases x with
  | none => exact h
  | some s =>
    obtain ⟨a, h1, h2⟩ := h
    exact ⟨a, (e s.h (by simp [hl])).trans h1, h2⟩

theorem SlAt.el {s : SlH} (h : SlAt X c (some s) l) {i : Nat} (hi : i < l.length) : X.el c s.h (s.off + i) = some (l[i]'hi) := by
  obtain ⟨a, h1, h2, h3, h4⟩ := h
  have hl : l.length ≤ s.len := by rw [h4]; simp; omega
  unfold XH.el
  rw [arr_at.2 h1]
  dsimp only
  have : l[i]? = a[s.off + i]? := by
    rw [h4, List.getElem?_take, if_pos (by omega), List.getElem?_drop]
  rw [← this, List.getElem?_eq_getElem hi]

theorem over_length {α : Type} {a l' : List α} {p : Nat} (h : p + l'.length ≤ a.length) : (over a p l').length = a.length := by
  simp only [over, List.length_append, List.length_take, List.length_drop]; omega

theorem over_get {α : Type} {a l' : List α} {p i : Nat} (h : p + l'.length ≤ a.length) :
    (over a p l')[i]? = if p ≤ i ∧ i < p + l'.length then l'[i - p]? else a[i]? := by
  unfold over
  rw [List.append_assoc]
  by_cases h1 : i < p
  · rw [if_neg (by omega), List.getElem?_append_left (by simp; omega), List.getElem?_take, if_pos h1]
  · rw [List.getElem?_append_right (by simp; omega)]
    simp only [List.length_take]
    by_cases h2 : i < p + l'.length
    · rw [if_pos (by omega), List.getElem?_append_left (by omega)]
      congr 1; omega
    · rw [if_neg (by omega), List.getElem?_append_right (by omega), List.getElem?_drop]
      congr 1; omega

theorem XH.over_eq {s : SlH} {a : List c.T} (h : X.at s.h = some (.arr c a)) (k : Nat) (l' : List c.T) : X.over c (some s) k l' = X.set s.h (.arr c (AB.over a (s.off + k) l')) := by
  unfold XH.over; simp only [arr_at.2 h]

/-- what stands, and what is owned, from here to there -/
structure Mv (X : XH) (S : List Nat) (X' : XH) (S' : List Nat) : Prop where
  n : X.n ≤ X'.n
  keep : ∀ k, k < X.n → k ∉ S → X'.at k = X.at k
  own : ∀ k ∈ S', k ∈ S ∨ X.n ≤ k

theorem Mv.refl (X : XH) (S : List Nat) : Mv X S X S := ⟨Nat.le_refl _, fun _ _ _ => rfl, fun _ h => .inl h⟩
theorem Mv.trans {X Y Z : XH} {S S' S'' : List Nat} (h : Mv X S Y S') (k : Mv Y S' Z S'') : Mv X S Z S'' :=
  ⟨Nat.le_trans h.n k.n, fun i hi hn => by
    rw [k.keep i (Nat.lt_of_lt_of_le hi h.n) fun e => (h.own i e).elim hn (fun e => absurd e (by omega)), h.keep i hi hn],
   fun i hi => (k.own i hi).elim (h.own i) fun e => .inr (Nat.le_trans h.n e)⟩

theorem Mv.set {h : Nat} {o : XO} {S : List Nat} (hm : h ∈ S) : Mv X S (X.set h o) S :=
  ⟨Nat.le_refl _, fun k _ hk => at_set_ne (fun e => hk (e ▸ hm)), fun _ h => .inl h⟩

theorem Mv.add (X : XH) (o : XO) (S : List Nat) : Mv X S (X.add o) (X.n :: S) :=
  ⟨Nat.le_succ _, fun k hk _ => at_add_old hk, fun k hk => by
    rcases List.mem_cons.1 hk with rfl | h
    · exact .inr (Nat.le_refl _)
    · exact .inl h⟩

theorem Mv.weak {S S' T T' : List Nat} (h : Mv X S X' S') (h1 : ∀ k ∈ S, k ∈ T) (h2 : ∀ k ∈ T', k ∈ S' ∨ k ∈ T) : Mv X T X' T' :=
  ⟨h.n, fun k hk hn => h.keep k hk fun e => hn (h1 k e), fun k hk => (h2 k hk).elim (fun e => (h.own k e).imp (h1 k) id) .inl⟩

/-- appended to -/
theorem XApp.spec {z : c.T} {l' : List c.T} {x' : Option SlH} (h : XApp X c z l l' x X' x') (hx : SlAt X c x l) : SlAt X' c x' (l ++ l') ∧ Mv X (hl x) X' (hl x') := by
  cases h with
  | none h =>
    subst h
    simp only [SlAt] at hx; subst hx
    exact ⟨rfl, .refl _ _⟩
  | room s hr =>
    have hlen := hx.len
    obtain ⟨a, h1, h2, h3, h4⟩ := hx
    simp only [slN] at hlen
    rw [XH.over_eq h1]
    refine ⟨⟨_, at_set_self h1, ?_, hr, ?_⟩, Mv.set (by simp [hl])⟩
    · rw [over_length (by omega)]; exact h2
    · refine List.ext_getElem? fun i => ?_
      dsimp only
      rw [List.getElem?_take]
      by_cases hi : i < s.len + l'.length
      · rw [if_pos hi, List.getElem?_drop, over_get (by omega)]
        by_cases hi2 : i < s.len
        · rw [if_neg (by omega), List.getElem?_append_left (by omega), h4, List.getElem?_take, if_pos hi2, List.getElem?_drop]
        · rw [if_pos (by omega), List.getElem?_append_right (by omega)]
          congr 1; omega
      · rw [if_neg hi, List.getElem?_eq_none (by simp; omega)]
  | grow k hk =>
    have hlen := hx.len
    refine ⟨⟨_, at_add_new _ _, ?_, ?_, ?_⟩, ?_⟩
    · simp only [List.length_append, List.length_replicate]; omega
    · dsimp only; omega
    · dsimp only
      rw [List.drop_zero, List.take_append_of_le_length (by simp only [List.length_append]; omega), List.take_of_length_le (by simp only [List.length_append]; omega)]
    · exact ⟨Nat.le_succ _, fun i hi _ => at_add_old hi, fun i hi => .inr (by simp only [hl, List.mem_singleton] at hi; omega)⟩

end Go.Proofs.Ytaaedebknacheaa.AB

set_option linter.unusedVariables false
set_option linter.unusedSimpArgs false
namespace Go.Proofs.Ytaaedebknacheaa.AB
open Go

section
variable {Mine : Mn} {G G' : Gh} {hp : Hp} {T : Toks} {w w' : World}

/-- nothing below has turned; cells beyond are frozen -/
theorem Inv.beyond (h : Inv Mine G hp T w) (hb : Go.RowKit.Below w.heap.size w w') (g : Nat) (hg : w.heap.size ≤ g) (f : Nat → Option Value)
    (hfr : ∀ o v, f o = some v → w'.cell? ⟨g, o, none⟩ = some v) :
    Inv Mine (G.addCells g f) hp T w' ∧ Fz G (G.addCells g f) ∧ Lc hp.length G (G.addCells g f) ∧ Stp Mine w w' := by
  have hno : ∀ o, G.cell g o = none := by
    intro o
    cases hc : G.cell g o with
    | none => rfl
    | some v => have := h.cell_lt hc; omega
  have hf : Fz G (G.addCells g f) := by
    refine ⟨fun b o v x => ?_, fun _ _ x => x, fun _ _ x => x, fun _ _ _ _ _ x => x⟩
    simp only [Gh.addCells]
    rw [if_neg (by have := h.cell_lt x; omega)]; exact x
  have hl : Lc hp.length G (G.addCells g f) := fun i hi g x hx => hx
  have hpriv : ∀ b, b < w.heap.size → G.priv b → (G.addCells g f).priv b := by
    intro b hb hp
    refine ⟨fun o => ?_, hp.2⟩
    simp only [Gh.addCells]; rw [if_neg (by omega)]; exact hp.1 o
  have hold : ∀ b o v, (G.addCells g f).cell b o = some v → Mine b ∨ Mine.cell b o = some v := by
    intro b o v hc
    simp only [Gh.addCells] at hc
    split at hc
    · subst_vars; exact .inl (h.mine _ hg)
    · exact h.old.1 b o v hc
  refine ⟨⟨?_, ?_, ?_, h.inj, ?_, h.tobj, h.tinj, h.lb, h.gens, h.tfin, ?_, hold, h.old.2⟩, hf, hl, ?_⟩
  · intro b o v hc
    simp only [Gh.addCells] at hc
    split at hc
    · subst_vars
      rw [hno, Option.or_none] at hc
      exact hfr o v hc
    · rw [cell_of_heap (w := w) (by exact hb.block _ (h.cell_lt hc))]
      exact h.cells b o v hc
  · intro r es hr
    rw [hb.block _ (h.mp_lt (r := r) (e := es) hr)]
    exact h.mps r es hr
  · intro i o hi
    refine (h.objs i o hi).keep h.lb hf hl (fun b hb' => ?_)
    have := ((h.objs i o hi).blk hb').2.2
    exact ⟨hb.block _ this, hpriv b this⟩
  · intro t ht
    obtain ⟨bo, e, c, h1, h2⟩ := h.toks t ht
    refine ⟨bo, e, c, h1, fun b hb' => ?_⟩
    obtain ⟨k1, ⟨cur', el', k2, k3⟩, k4, k5⟩ := h2 b hb'
    have := heap_lt k2
    refine ⟨k1, ⟨cur', el', by rw [hb.block _ this]; exact k2, k3⟩, fun o ho => ?_, k5⟩
    simp only [Gh.addCells]; rw [if_neg (by omega)]; exact k4 o ho
  · intro b hb'
    have := hb.size
    exact h.mine b (by omega)
  · exact ⟨hb.os, hb.tape, hb.output, hb.size, fun k hk => hb.block k (by rcases Nat.lt_or_ge k w.heap.size with q | q; exact q; exact absurd (h.mine k q) hk)⟩

/-- a new row of numbers, as a list -/
theorem Inv.rowInt (h : Inv Mine G hp T w) (hb : Go.RowKit.Below w.heap.size w w') {e : TypeId} {v : Value} {l : List Int} (hr : w'.ownsRow w.heap.size e 1 v l.length (l.map fun n => .int .i64 n)) :
    ∃ G', TR G' (.v (.list (.int .i64) l .no)) v ∧ Inv Mine G' hp T w' ∧ Fz G G' ∧ Lc hp.length G G' ∧ Stp Mine w w' := by
  obtain ⟨h1, h2⟩ := hr
  have cellsE : ∀ l : List Int, (l.flatMap (Cd.int .i64).cells) = l.map fun n => V.int .i64 n := by
    intro l
    induction l with
    | nil => rfl
    | cons a l ih => rw [List.flatMap_cons, ih]; rfl
  rcases h2 with ⟨rfl, h2⟩ | ⟨g, cap, cur, rfl, h3, h4, h5, h6, h7, h8⟩
  · have hl : l = [] := List.length_eq_zero_iff.1 h2
    subst hl
    obtain ⟨k1, k2, k3, k4⟩ := h.beyond hb w.heap.size (Nat.le_refl _) (fun _ => none) (fun o v e => by cases e)
    refine ⟨_, .v _ _ (.list (.int .i64) [] .no none 0 0 0 (fun _ => Go.undef) (fun e => absurd rfl e) (Nat.le_refl _) (fun i x hx => by simp at hx) (fun i x hx => by simp at hx) (fun i x hx => by simp at hx) trivial), k1, k2, k3, k4⟩
  · obtain ⟨k1, k2, k3, k4⟩ := h.beyond hb g h3 (fun o => (l.map fun n => Value.int .i64 n)[o]?) (fun o v e => by
      unfold World.cell?
      simp only [h4]
      rw [← h8, List.getElem?_take] at e
      split at e
      · simpa using e
      · cases e)
    have hno : ∀ o, G.cell g o = none := by
      intro o
      cases hc : G.cell g o with
      | none => rfl
      | some v => have := h.cell_lt hc; omega
    have hget : ∀ (i : Nat) x, ((l.flatMap (Cd.int .i64).cells))[i]? = some x → ∃ n, l[i]? = some n ∧ x = .int .i64 n := by
      intro i x hx
      rw [cellsE, List.getElem?_map] at hx
      cases hl : l[i]? with
      | none => rw [hl] at hx; cases hx
      | some n => rw [hl] at hx; exact ⟨n, rfl, (Option.some.inj hx).symm⟩
    refine ⟨_, .v _ _ (.list (.int .i64) l .no (some ⟨g, 0, none⟩) cap g 0 (fun i => .int .i64 (l.getD i 0)) (fun _ => rfl) h5 (fun i x hx => ?_) (fun i x hx => rfl) (fun i x hx => ?_) trivial), k1, k2, k3, k4⟩
    · obtain ⟨n, h9, rfl⟩ := hget i x hx
      simp only [Gh.addCells, if_true, Nat.zero_add, hno, Option.or_none, List.getElem?_map, h9, Option.map_some, List.getD, Option.getD_some]
    · obtain ⟨n, h9, rfl⟩ := hget i x hx
      simp only [List.getD, h9, Option.getD_some]
      exact .int _ _

end
end Go.Proofs.Ytaaedebknacheaa.AB

