/- Parts of the proof: an evaluator of code on plain values, and that it is right of the model. -/
import Derived.Test.YtdcljlafookliaaDoorABx1
import Derived.Lib.AppendZerosOnto
import Derived.Deep.LoopGhost
import Derived.Orders
set_option linter.unusedVariables false
set_option linter.unusedSimpArgs false
namespace Go.Proofs.YtdcljlafookliaaDoor.AB
open Go

section
variable {P : Program} {tt : TT} {Mine : Mn} {G : Gh} {s : St} {a : Act} {w : World}
variable {t t2 e ty : TypeId} {i : TypeInfo} {z : Value} {d2 : TypeDesc}

theorem run_app_zero (ht : P.underlying t = some (.slice e)) (ht2 : P.underlying t2 = some d2) (hd2 : ∀ k, d2 ≠ .int k) (hi : P.info? e = some i) {v : Value} {news : List Value}
  (hs : Src P w i.size 0 v news) {ao : Option Addr} {sLen sCap : Nat} (hroom : sLen ≤ sCap) :
  (Builtin.append_ #[t, t2] ty #[.slice ao sLen sCap, v]).run P w = .ok (.slice ao sLen sCap) w := by
 have hz : (match d2 with | .int _ => true | _ => false) = false := by cases d2 <;> first | rfl | exact absurd rfl (hd2 _)
 have hn : news = [] := List.eq_nil_of_length_eq_zero (by rw [hs.size]; simp)
 subst hn
 simp only [Builtin.append_, List.getElem?_toArray, List.getElem?_cons_zero, List.getElem?_cons_succ, Sem.run_bind, run_underlying ht, run_underlying ht2, Result.andThen_ok, sizeOf, typeInfo,
  run_program, hi, Sem.run_pure, hz, Bool.false_eq_true, if_false, hs.len, Nat.add_zero, if_pos hroom, Bool.not_false, if_true, hs.cells w rfl]
 cases ao <;> rfl

theorem run_asInt64 (P : Program) (w : World) (n : Int) : (asInt (.int .i64 n)).run P w = .ok n w := by simp [asInt, asIntOf]

def Ap (P : Program) (w : World) (t2 : TypeId) (i : TypeInfo) (z : Value) (n : Nat) (v : Value) (news : List Value) : Prop :=
 (∃ d2, P.underlying t2 = some d2 ∧ (∀ k, d2 ≠ .int k) ∧ Src P w i.size n v news) ∨
 (∃ kn, P.underlying t2 = some (.int kn) ∧ v = .int .i64 (n : Int) ∧ n * i.bytes ≤ 140737488355328 ∧ 0 < i.bytes ∧ news = (Builtin.zeroCells z.cells n).toList ∧ news.length = n * i.size ∧ ∀ u ∈ news, u.oneCell' = true)

theorem Ap.size {n : Nat} {v : Value} {news : List Value} (h : Ap P w t2 i z n v news) : news.length = n * i.size := by
 rcases h with ⟨d2, _, _, h⟩ | ⟨kn, _, _, _, _, _, h, _⟩
 ·exact h.size
 ·exact h

theorem Ap.one {n : Nat} {v : Value} {news : List Value} (h : Ap P w t2 i z n v news) : ∀ u ∈ news, u.oneCell' = true := by
 rcases h with ⟨d2, _, _, h⟩ | ⟨kn, _, _, _, _, _, _, h⟩
 ·exact h.one
 ·exact h

theorem run_ap_zero (ht : P.underlying t = some (.slice e)) (hi : P.info? e = some i) {v : Value} {news : List Value}
  (hs : Ap P w t2 i z 0 v news) {ao : Option Addr} {sLen sCap : Nat} (hroom : sLen ≤ sCap) :
  (Builtin.append_ #[t, t2] ty #[.slice ao sLen sCap, v]).run P w = .ok (.slice ao sLen sCap) w := by
 rcases hs with ⟨d2, h1, h2, h3⟩ | ⟨kn, h1, rfl, h3, h4, h5, h6, h7⟩
 ·exact run_app_zero ht h1 h2 hi h3 hroom
 ·have hw : IntKind.i64.wrap 0 = 0 := rfl
  cases ao <;> simp [Builtin.append_, run_underlying ht, run_underlying h1, sizeOf, typeInfo, hi, asInt, asIntOf, hw, hroom, storeCells]

theorem run_ap_room (ht : P.underlying t = some (.slice e)) (hi : P.info? e = some i) (hz0 : i.zero = some z) {n : Nat} {v : Value} {news : List Value}
  (hs : Ap P w t2 i z n v news) {b o sLen sCap : Nat} {cur : Array Value} {el : TypeId} (hb : w.heap[b]? = some (.cells cur el (0, 0))) (hroom : sLen + n ≤ sCap)
  (hfit : o + sLen * i.size + news.length ≤ cur.size) :
  (Builtin.append_ #[t, t2] ty #[.slice (some ⟨b, o, none⟩) sLen sCap, v]).run P w =
   .ok (.slice (some ⟨b, o, none⟩) (sLen + n) sCap) (w.setRow b (cur.toList.take (o + sLen * i.size) ++ news ++ cur.toList.drop (o + sLen * i.size + news.length)).toArray) := by
 rcases hs with ⟨d2, h1, h2, h3⟩ | ⟨kn, h1, rfl, h3, h4, h5, h6, h7⟩
 ·exact run_app_room ht h1 h2 hi h3 hb hroom hfit
 ·have hst := run_storeCells_at P b (o + sLen * i.size) el news 0 cur w hb (by simpa using hfit) h7
  simp only [Nat.add_zero] at hst
  have hnb : n ≤ n * i.bytes := Nat.le_mul_of_pos_right n h4
  have hw : IntKind.i64.wrap (n : Int) = n := by rw [IntKind.wrap_i64]; omega
  have h48 : ¬ ((n : Int) * (i.bytes : Int) > 2 ^ 48) := by
   have : ((n * i.bytes : Nat) : Int) ≤ 140737488355328 := by omega
   rw [Int.natCast_mul] at this; omega
  have hn0 : ¬ ((n : Int) < 0) := by omega
  have happ : ∀ w : World, (if n * i.size = 0 then pure #[] else do pure (Builtin.zeroCells (← zeroValue e).cells n) : Sem (Array Value)).run P w = .ok news.toArray w := by
   intro w
   split
   ·rename_i h0
    rw [h0] at h6
    rw [List.eq_nil_of_length_eq_zero h6]; rfl
   ·rw [h5]; simp [zeroValue, typeInfo, hi, hz0, Sem.run_bind]
  have h48' : ¬ (281474976710656 < (n : Int) * (i.bytes : Int)) := by omega
  have hroom' : sLen + n ≤ sCap := hroom
  by_cases h0 : n * i.size = 0
  ·have hnil : news = [] := List.eq_nil_of_length_eq_zero (by rw [h6, h0])
   subst hnil
   simp [Builtin.append_, run_underlying ht, run_underlying h1, sizeOf, typeInfo, zeroValue, hi, hz0, asInt, asIntOf, hw, hn0, h48', hroom', h0, storeCells]
   have : w.setRow b (cur.toList.take (o + sLen * i.size) ++ [] ++ cur.toList.drop (o + sLen * i.size + 0)).toArray = w := by simpa using setRow_self w b cur _ _ hb
   simpa using this.symm
  ·have hst' : (storeCells ((⟨b, o, none⟩ : Addr).add (sLen * i.size)) (Builtin.zeroCells z.cells n).toList).run P w = .ok () (w.setRow b (cur.toList.take (o + sLen * i.size) ++ news ++ cur.toList.drop (o + sLen * i.size + news.length)).toArray) := by
    rw [addr_add, ← h5]; exact hst
   simp [Builtin.append_, run_underlying ht, run_underlying h1, sizeOf, typeInfo, zeroValue, hi, hz0, asInt, asIntOf, hw, hn0, h48', hroom', h0, hst']

theorem run_ap_grow (ht : P.underlying t = some (.slice e)) (hi : P.info? e = some i) (hz0 : i.zero = some z) {n : Nat} {v : Value} {news : List Value}
  (hs : Ap P w t2 i z n v news) {ao : Option Addr} {sLen sCap : Nat} {olds : List Value} (hroom : ¬ sLen + n ≤ sCap) (hbpos : 0 < i.bytes) (hspos : 0 < i.size)
  (hold : ∀ w' : World, w'.heap = w.heap → (Builtin.firstCells i.size sLen (.slice ao sLen sCap)).run P w' = .ok olds.toArray w') (hlc : sLen ≤ sCap) (h63 : sLen + n ≤ 140737488355328)
  (hfit : Builtin.nextslicecap (sLen + n) sCap * i.bytes ≤ 281474976710656) :
  (Builtin.append_ #[t, t2] ty #[.slice ao sLen sCap, v]).run P w =
   .ok (.slice (some ⟨w.heap.size, 0, none⟩) (sLen + n) (grownCap w (sLen + n) sCap e))
    (w.drew.alloc (.cells (olds.toArray ++ news.toArray ++ Builtin.zeroCells z.cells (grownCap w (sLen + n) sCap e - (sLen + n))) e)) := by
 rcases hs with ⟨d2, h1, h2, h3⟩ | ⟨kn, h1, rfl, h3, h4, h5, h6, h7⟩
 ·exact run_app_grow ht h1 h2 hi hz0 h3 hroom hbpos hold hfit
 ·have := Lib.run_append_grow_zeros (P := P) w t t2 ty e i z .i64 kn ht h1 hi hz0 ao sLen sCap olds (hold w.drew rfl) n (by omega) hspos (by omega) (by omega) (by omega) hfit
  rw [this, h5, Array.toArray_toList]

theorem isSrcK_und (htt : TTOK P tt) {t2 : Nat} (hok : (tt.at t2).ok = true) (h : isSrcK (tt.at t2).k = true) : ∃ d2, P.underlying t2 = some d2 ∧ ∀ k, d2 ≠ .int k := by
 obtain ⟨d, hd, hk⟩ := (htt t2 hok).und
 refine ⟨d, hd, fun k e => ?_⟩
 subst e
 cases hkk : (tt.at t2).k <;> rw [hkk] at h hk <;> simp [isSrcK, KOK] at h hk

theorem cell_heap {w w' : World} (h : w'.heap = w.heap) (a : Addr) : w'.cell? a = w.cell? a := by unfold World.cell?; rw [h]

theorem range_vals {n : Nat} {vals : Nat → Value} {j : Nat} {y : Value} (hy : ((List.range n).map vals)[j]? = some y) : j < n ∧ y = vals j := by
 rw [List.getElem?_map] at hy
 cases hr : (List.range n)[j]? with
 | none => rw [hr] at hy; cases hy
 | some k =>
  rw [hr] at hy; cases hy
  have hj : j < n := by
   have := (List.getElem?_eq_some_iff.1 hr).1; simpa using this
  rw [List.getElem?_range hj] at hr; cases hr
  exact ⟨hj, rfl⟩

theorem load_vals (hi : Inv Mine G s.hp s.T w) {c : Cd} {l : List c.T} {ao : Option Addr} {b o : Nat} {vals : Nat → Value} (ha : l ≠ [] → ao = some ⟨b, o, none⟩)
  (hcc : ∀ (i : Nat) x, (l.flatMap c.cells)[i]? = some x → G.cell b (o + i) = some (vals i)) {w' : World} (hw' : w'.heap = w.heap) (ln cp : Nat) :
  (Builtin.firstCells c.sz l.length (.slice ao ln cp)).run P w' = .ok ((List.range (l.length * c.sz)).map vals).toArray w' := by
 by_cases hl : l = []
 ·subst hl
  cases ao with
  | none => simp [Builtin.firstCells]
  | some ad => simp [Builtin.firstCells, loadCells, loadCellsFrom]
 ·obtain rfl := ha hl
  simp only [Builtin.firstCells]
  have := run_loadCells_list (P := P) w' ⟨b, o, none⟩ ((List.range (l.length * c.sz)).map vals) (fun j y hy => by
   obtain ⟨hj, rfl⟩ := range_vals hy
   have hq : (l.flatMap c.cells)[j]? = some _ := List.getElem?_eq_getElem (by rw [length_flat]; exact hj)
   rw [addr_add, cell_heap hw']
   exact hi.cells _ _ _ (hcc j _ hq))
  simpa using this

theorem vals_one {c : Cd} {l : List c.T} {vals : Nat → Value} (ho : ∀ (i : Nat) x, (l.flatMap c.cells)[i]? = some x → (vals i).oneCell' = true) :
  ∀ u ∈ (List.range (l.length * c.sz)).map vals, u.oneCell' = true := by
 intro u hu
 simp only [List.mem_map, List.mem_range] at hu
 obtain ⟨j, hj, rfl⟩ := hu
 have hq : (l.flatMap c.cells)[j]? = some _ := List.getElem?_eq_getElem (by rw [length_flat]; exact hj)
 exact ho j _ hq

theorem vals_rel {c : Cd} {l : List c.T} {vals : Nat → Value} (hv : ∀ (i : Nat) x, (l.flatMap c.cells)[i]? = some x → VR G x (vals i)) :
  ∀ (j : Nat) q, (l.flatMap c.cells)[j]? = some q → ∃ u, ((List.range (l.length * c.sz)).map vals)[j]? = some u ∧ VR G q u := by
 intro j q hq
 have hj : j < l.length * c.sz := by rw [← length_flat c l]; exact (List.getElem?_eq_some_iff.1 hq).1
 exact ⟨vals j, by simp [List.getElem?_map, List.getElem?_range hj], hv j q hq⟩

theorem src_sound (hi : Inv Mine G s.hp s.T w) {c : Cd} {y : TV} {v : Value} {l' : List c.T} (h : srcOf c y s.hp = some l') (hy : TR G y v) :
  ∃ news, Src P w c.sz l'.length v news ∧ ∀ (j : Nat) q, (l'.flatMap c.cells)[j]? = some q → ∃ u, news[j]? = some u ∧ VR G q u := by
 unfold srcOf at h
 split at h
 ·rename_i c' l tk
  split at h
  ·rename_i hc
   subst hc
   cases h
   cases hy with | v _ _ hy =>
   cases hy with | list _ _ _ ao cap b o vals ha hcap hcc ho hvv ht =>
   exact ⟨_, ⟨fun w' => by simp [Builtin.lenOf], fun w' hw' => load_vals hi ha hcc hw' _ _, by simp, vals_one ho⟩, vals_rel hvv⟩
  ·cases h
 ·rename_i sl
  split at h
  ·rename_i hc
   subst hc
   cases h
   cases hy with | v _ _ hy =>
   cases hy
   have hbl : (bytesOf sl).length = sl.length := by simp [bytesOf]
   refine ⟨sl.map fun b => .int .u8 (b.toNat : Int), ⟨fun w' => by simp [Builtin.lenOf, bytes_size, hbl], fun w' hw' => ?_, by simp [hbl, Cd.sz], ?_⟩, ?_⟩
   ·simp only [Builtin.firstCells, Sem.run_pure]
    congr 1
    rw [hbl, bytes_extract]
    apply Array.ext'
    simp
   ·intro u hu
    simp only [List.mem_map] at hu
    obtain ⟨b, _, rfl⟩ := hu
    rfl
   ·intro j q hq
    rw [bytes_cells, List.getElem?_map] at hq
    cases hb : sl[j]? with
    | none => rw [hb] at hq; cases hq
    | some b => rw [hb] at hq; cases hq; exact ⟨_, by simp [hb], .int _ _⟩
  ·cases h
 ·cases h

theorem Inv.addTok {hp : Hp} {T : Toks} (h : Inv Mine G hp T w) {n : Nat} (hnT : n = T.n) {bo : Option Nat} {e c : Nat}
  (hb : ∀ b, bo = some b → Mine b ∧ (∃ cur el, w.heap[b]? = some (.cells cur el (0, 0)) ∧ e ≤ c ∧ c = cur.size) ∧ (∀ o, e ≤ o → G.cell b o = none) ∧ G.mp b = none ∧
   (∀ i o, hp[i]? = some (some o) → Owns G i o b → False) ∧ (∀ t ∈ T.l, ∀ e' c', G.tok t = some (some b, e', c') → False)) :
  Inv Mine (G.setTok n (bo, e, c)) hp ⟨n + 1, n :: T.l⟩ w ∧ Fz G (G.setTok n (bo, e, c)) ∧ Lc hp.length G (G.setTok n (bo, e, c)) := by
 have hn : ∀ m, n ≤ m → G.tok m = none := fun m hm => h.tfin m (hnT ▸ hm)
 have hf : Fz G (G.setTok n (bo, e, c)) := by
  refine ⟨fun _ _ _ x => x, fun _ _ x => x, fun m x hx => ?_, fun t t' x hlt hx hnn => ?_⟩
  ·simp only [Gh.setTok]
   rw [if_neg (fun e => by subst e; rw [hn _ (Nat.le_refl _)] at hx; cases hx)]; exact hx
  ·simp only [Gh.setTok]
   rw [if_neg (fun e => by subst e; rw [hn t' (by omega)] at hx; cases hx)]; exact hnn
 have hl : Lc hp.length G (G.setTok n (bo, e, c)) := fun i hi g x hx => hx
 have hT : ∀ t ∈ T.l, t ≠ n := by
  intro t ht e
  subst e
  obtain ⟨_, _, _, h1, _⟩ := h.toks t ht
  rw [hn t (Nat.le_refl _)] at h1; cases h1
 have htk : ∀ t ∈ T.l, (G.setTok n (bo, e, c)).tok t = G.tok t := by
  intro t ht; simp only [Gh.setTok]; rw [if_neg (hT t ht)]
 have htn : (G.setTok n (bo, e, c)).tok n = some (bo, e, c) := by simp [Gh.setTok]
 refine ⟨⟨h.cells, h.mps, ?_, h.inj, ?_, ?_, ?_, h.lb, h.gens, ?_, h.mine, h.old⟩, hf, hl⟩
 ·intro i o hi
  exact (h.objs i o hi).keep h.lb hf hl (fun b _ => ⟨rfl, id⟩)
 ·intro t ht
  rcases List.mem_cons.1 ht with rfl | ht
  ·exact ⟨bo, e, c, htn, fun b hbb => let ⟨a1, a2, a3, a4, _, _⟩ := hb b hbb; ⟨a1, a2, a3, a4⟩⟩
  ·rw [htk t ht]; exact h.toks t ht
 ·intro t ht i o b e' c' h1 h2 h3
  rcases List.mem_cons.1 ht with rfl | ht
  ·rw [htn] at h1; cases h1
   exact (hb b rfl).2.2.2.2.1 i o h2 h3
  ·rw [htk t ht] at h1; exact h.tobj t ht i o b e' c' h1 h2 h3
 ·intro t ht t' ht' hne b e1 c1 e2 c2 h1 h2
  rcases List.mem_cons.1 ht with p | p
  ·rcases List.mem_cons.1 ht' with q | q
   ·exact hne (p.trans q.symm)
   ·rw [p, htn] at h1; cases h1
    rw [htk t' q] at h2
    exact (hb b rfl).2.2.2.2.2 t' q e2 c2 h2
  ·rcases List.mem_cons.1 ht' with q | q
   ·rw [q, htn] at h2; cases h2
    rw [htk t p] at h1
    exact (hb b rfl).2.2.2.2.2 t p e1 c1 h1
   ·rw [htk t p] at h1; rw [htk t' q] at h2
    exact h.tinj t p t' q hne b e1 c1 e2 c2 h1 h2
 ·intro m hm
  have hm : n + 1 ≤ m := hm
  simp only [Gh.setTok]
  rw [if_neg (by omega)]; exact hn m (by omega)

theorem Inv.inPlace {hp : Hp} {T : Toks} (h : Inv Mine G hp T w) {m : Nat} (hm : m ∈ T.l) {b e c : Nat} (ht : G.tok m = some (some b, e, c)) {cur cur' : Array Value} {el : TypeId}
  (hb : w.heap[b]? = some (.cells cur el (0, 0))) (f : Nat → Option Value) (hfe : ∀ o v, f o = some v → e ≤ o ∧ cur'[o]? = some v) (hold : ∀ o, o < e → cur'[o]? = cur[o]?) :
  Inv Mine (G.addCells b f) hp ⟨T.n, T.l.filter (· ≠ m)⟩ (w.setRow b cur') ∧ Fz G (G.addCells b f) ∧ Lc hp.length G (G.addCells b f) ∧ Stp Mine w (w.setRow b cur') := by
 obtain ⟨bo, e', c', h1, h2⟩ := h.toks m hm
 rw [ht] at h1; cases h1
 obtain ⟨hmine, ⟨cur0, el0, h3, h4, h5⟩, h6, h7⟩ := h2 b rfl
 have hf : Fz G (G.addCells b f) := by
  refine ⟨fun b' o v x => ?_, fun _ _ x => x, fun _ _ x => x, fun _ _ _ _ _ x => x⟩
  simp only [Gh.addCells]
  split
  ·subst_vars
   rw [x]; rfl
  ·exact x
 have hl : Lc hp.length G (G.addCells b f) := fun i hi g x hx => hx
 have hother : ∀ k, k ≠ b → (w.setRow b cur').heap[k]? = w.heap[k]? := fun k hk => setRow_other w b k cur' hk
 have hnew : (w.setRow b cur').heap[b]? = some (.cells cur' el (0, 0)) := setRow_heap w b cur cur' el (0, 0) hb
 have hold' : ∀ b' o v, (G.addCells b f).cell b' o = some v → Mine b' ∨ Mine.cell b' o = some v := by
  intro b' o v hc
  simp only [Gh.addCells] at hc
  split at hc
  ·subst_vars; exact .inl hmine
  ·exact h.old.1 b' o v hc
 refine ⟨⟨?_, ?_, ?_, h.inj, ?_, ?_, ?_, h.lb, h.gens, h.tfin, ?_, hold', h.old.2⟩, hf, hl, Stp.setRow hmine⟩
 ·intro b' o v hc
  simp only [Gh.addCells] at hc
  split at hc
  ·rename_i hbb
   subst hbb
   rw [cell_of_block hnew]
   cases hgo : G.cell b' o with
   | some v' =>
    rw [hgo] at hc
    simp only [Option.some_or, Option.some.injEq] at hc
    subst hc
    have holt : o < e := by
     rcases Nat.lt_or_ge o e with q | q
     ·exact q
     ·rw [h6 o q] at hgo; cases hgo
    rw [hold o holt]
    have := h.cells _ _ _ hgo
    rw [cell_of_block hb] at this; exact this
   | none =>
    rw [hgo] at hc
    simp only [Option.none_or] at hc
    exact (hfe o v hc).2
  ·rename_i hbb
   rw [cell_of_heap (w := w) (by exact hother _ hbb)]
   exact h.cells _ _ _ hc
 ·intro r es hr
  have hr' : G.mp r = some es := hr
  rw [hother r (fun e => by subst e; rw [h7] at hr'; cases hr')]
  exact h.mps r es hr'
 ·intro i o hi
  refine (h.objs i o hi).keep h.lb hf hl (fun b' hb' => ?_)
  have hne : b' ≠ b := fun e => by subst e; exact h.tobj m hm i o b' _ _ ht hi hb'
  refine ⟨hother b' hne, fun hp => ⟨fun o => ?_, hp.2⟩⟩
  simp only [Gh.addCells]; rw [if_neg hne]; exact hp.1 o
 ·intro t htT
  simp only [List.mem_filter, decide_eq_true_eq] at htT
  obtain ⟨bo, e', c', k1, k2⟩ := h.toks t htT.1
  refine ⟨bo, e', c', k1, fun b' hb' => ?_⟩
  obtain ⟨q1, ⟨cur1, el1, q2, q3⟩, q4, q5⟩ := k2 b' hb'
  have hne : b' ≠ b := fun e => by
   subst e; subst hb'
   exact h.tinj t htT.1 m hm htT.2 b' _ _ _ _ k1 ht
  refine ⟨q1, ⟨cur1, el1, by rw [hother b' hne]; exact q2, q3⟩, fun o ho => ?_, q5⟩
  simp only [Gh.addCells]; rw [if_neg hne]; exact q4 o ho
 ·intro t htT i o b' e' c' k1 k2 k3
  simp only [List.mem_filter, decide_eq_true_eq] at htT
  exact h.tobj t htT.1 i o b' e' c' k1 k2 k3
 ·intro t htT t' htT' hne b' e1 c1 e2 c2 k1 k2
  simp only [List.mem_filter, decide_eq_true_eq] at htT htT'
  exact h.tinj t htT.1 t' htT'.1 hne b' e1 c1 e2 c2 k1 k2
 ·intro k hk
  have : (w.setRow b cur').heap.size = w.heap.size := by simp
  rw [this] at hk; exact h.mine k hk

theorem own_sub {t : Tok} {T : List Nat} : ∀ n ∈ t.drop T, n ∈ T := by
 intro n hn
 cases t with
 | tk k => exact (List.mem_filter.1 hn).1
 | _ => exact hn

end
end Go.Proofs.YtdcljlafookliaaDoor.AB

namespace Go.Proofs.YtdcljlafookliaaDoor.AB
open Go

section
variable {P : Program} {tt : TT} {Mine : Mn} {G : Gh} {s : St} {a : Act} {w : World}

theorem flat_append {c : Cd} {l l' : List c.T} {us vs : List Value} (hl : us.length = l.length * c.sz) (h1 : ∀ (j : Nat) q, (l.flatMap c.cells)[j]? = some q → ∃ u, us[j]? = some u ∧ VR G q u)
  (h2 : ∀ (j : Nat) q, (l'.flatMap c.cells)[j]? = some q → ∃ u, vs[j]? = some u ∧ VR G q u) :
  ∀ (j : Nat) q, ((l ++ l').flatMap c.cells)[j]? = some q → ∃ u, (us ++ vs)[j]? = some u ∧ VR G q u := by
 intro j q hq
 rw [List.flatMap_append, List.getElem?_append, length_flat] at hq
 rw [List.getElem?_append, hl]
 split at hq
 ·rename_i h; rw [if_pos h]; exact h1 j q hq
 ·rename_i h; rw [if_neg h]; exact h2 _ q hq

theorem VR.head {c : Cd} {l : List c.T} {b cap : Nat} {us : List Value} {t : Tok} (hc : ∀ (j : Nat) u, us[j]? = some u → G.cell b j = some u) (hone : ∀ u ∈ us, u.oneCell' = true)
  (hv : ∀ (j : Nat) q, (l.flatMap c.cells)[j]? = some q → ∃ u, us[j]? = some u ∧ VR G q u) (hcap : l.length ≤ cap) (ht : TokOK G t (some ⟨b, 0, none⟩) l.length cap c.sz) :
  VR G (.list c l t) (.slice (some ⟨b, 0, none⟩) l.length cap) := by
 refine .list c l t _ cap b 0 (fun j => us.getD j Go.undef) (fun _ => rfl) hcap ?_ ?_ ?_ ht
 ·intro i x hx
  obtain ⟨u, h1, h2⟩ := hv i x hx
  simp only [List.getD, h1, Option.getD_some, Nat.zero_add]; exact hc i u h1
 ·intro i x hx
  obtain ⟨u, h1, h2⟩ := hv i x hx
  simp only [List.getD, h1, Option.getD_some]; exact hone u (List.mem_of_getElem? h1)
 ·intro i x hx
  obtain ⟨u, h1, h2⟩ := hv i x hx
  simp only [List.getD, h1, Option.getD_some]; exact h2

theorem drop_no {m : Nat} {T : List Nat} : m ∉ (Tok.tk m).drop T := by simp [Tok.drop]

theorem append_listS (htt : TTOK P tt) {t t2 e ty : Nat} (hok2 : (tt.at t2).ok = true) (he : sliceElem tt t = some e) (hsrc : isSrcK (tt.at t2).k = true) {c : Cd} {l l' : List c.T} {tk : Tok} {u v : Value} {news : List Value}
  (hc : c = (tt.at e).code) (hs : Src P w c.sz l'.length v news) (hnv : ∀ (j : Nat) q, (l'.flatMap c.cells)[j]? = some q → ∃ u, news[j]? = some u ∧ VR G q u) (hi : Inv Mine G s.hp s.T w) (hx : TR G (.v (.list c l tk)) u) {K : TV → St → Prop}
  (hown : tk.own s.T.l) (hroom : (l.length + l'.length) * (tt.at e).bytes ≤ room) (h : K (.v (.list c (l ++ l') (.tk s.T.n))) { s with T := ⟨s.T.n + 1, s.T.n :: tk.drop s.T.l⟩ }) :
  Res Mine G s w ((Builtin.append_ #[t, t2] ty #[u, v]).run P w) K := by
 obtain ⟨hd, _, hoke, hcok⟩ := sliceElem_ok htt he
 obtain ⟨hsz, hpos, hbpos⟩ := (htt e hoke).cok hcok
 obtain ⟨i, z, h1, h2, h3, h4, h5, h6, h7, h8, h9⟩ := run_zero htt hoke w
 obtain ⟨d2, hd2, hd2n⟩ := isSrcK_und htt hok2 hsrc
 have hcs : i.size = c.sz := by rw [hc, h3]; exact hsz.symm
 rw [← hcs] at hs
 have hN := hi.tfin
 have hK := h
 generalize hNe : s.T.n = N at hN hK
 cases hx with | v _ _ hx =>
 cases hx with | list _ _ _ ao cap b o vals ha hcap hcc ho hvv ht =>
 have o1 : ((List.range (l.length * c.sz)).map vals).length = l.length * c.sz := by simp
 have o2 := vals_one ho
 have o4 := vals_rel hvv
 have hlen' : (l ++ l').length = l.length + l'.length := by simp
 by_cases hfit : l.length + l'.length ≤ cap
 ·-- room
  cases tk with
  | no => exact hown.elim
  | exact =>
   have hce : cap = l.length := ht
   have hl0 : l' = [] := List.eq_nil_of_length_eq_zero (by omega)
   subst hl0
   have hr := run_app_zero (P := P) (ty := ty) (w := w) hd hd2 hd2n h1 hs (ao := ao) (sLen := l.length) (sCap := cap) hcap
   obtain ⟨g1, g2, g3⟩ := (hi.withT (T' := ⟨s.T.n, Tok.exact.drop s.T.l⟩) (Nat.le_refl _) (fun t ht => own_sub (t := .exact) t ht)).addTok hNe.symm (bo := none) (e := l.length * c.sz) (c := cap * c.sz) (fun b hb => by cases hb)
   refine ⟨_, w, _, _, _, hr, hK, ?_, rfl, g1, g2, g3, Nat.le_refl _, .refl _ _⟩
   rw [List.append_nil]
   exact .v _ _ (.list c l (.tk N) ao cap b o vals ha hcap (fun i x hx => g2.cell _ _ _ (hcc i x hx)) ho (fun i x hx => (hvv i x hx).mono g2)
    ⟨none, by simp [Gh.setTok], hce⟩)
  | tk m =>
   obtain ⟨bo, hm1, hm2⟩ := ht
   cases bo with
   | none =>
    have hce : cap = l.length := hm2
    have hl0 : l' = [] := List.eq_nil_of_length_eq_zero (by omega)
    subst hl0
    have hr := run_app_zero (P := P) (ty := ty) (w := w) hd hd2 hd2n h1 hs (ao := ao) (sLen := l.length) (sCap := cap) hcap
    obtain ⟨g1, g2, g3⟩ := (hi.withT (T' := ⟨s.T.n, (Tok.tk m).drop s.T.l⟩) (Nat.le_refl _) (fun t ht => own_sub (t := .tk m) t ht)).addTok hNe.symm (bo := none) (e := l.length * c.sz) (c := cap * c.sz) (fun b hb => by cases hb)
    refine ⟨_, w, _, _, _, hr, hK, ?_, rfl, g1, g2, g3, Nat.le_refl _, .refl _ _⟩
    rw [List.append_nil]
    exact .v _ _ (.list c l (.tk N) ao cap b o vals ha hcap (fun i x hx => g2.cell _ _ _ (hcc i x hx)) ho (fun i x hx => (hvv i x hx).mono g2)
     ⟨none, by simp [Gh.setTok], hce⟩)
   | some b' =>
    have hao : ao = some ⟨b', 0, none⟩ := hm2
    subst hao
    have hmT : m ∈ s.T.l := hown
    obtain ⟨bo, e', c', q1, q2⟩ := hi.toks m hmT
    have hm1' := hm1
    rw [hm1] at q1; cases q1
    obtain ⟨r1, ⟨cur, el, r2, r3, r4⟩, r5, r6⟩ := q2 b' rfl
    have hnl : news.length = l'.length * c.sz := by rw [hs.size, hcs]
    have hfit' : 0 + l.length * i.size + news.length ≤ cur.size := by
     rw [Nat.zero_add, hcs, hnl, ← r4, ← Nat.add_mul]; exact Nat.mul_le_mul_right _ hfit
    have hr := run_app_room (P := P) (ty := ty) hd hd2 hd2n h1 hs r2 hfit hfit'
    rw [Nat.zero_add, hcs] at hr
    -- the new cells
    generalize hcur' : (cur.toList.take (l.length * c.sz) ++ news ++ cur.toList.drop (l.length * c.sz + news.length)).toArray = cur' at hr
    have hcl : l.length * c.sz ≤ cur.size := by rw [← r4]; exact r3
    have hat : ∀ o, cur'[o]? = if o < l.length * c.sz then cur[o]? else if o - l.length * c.sz < news.length then news[o - l.length * c.sz]? else cur[o]? := by
     intro o
     rw [← hcur']
     simp only [List.getElem?_toArray, List.append_assoc, List.getElem?_append, List.length_take, Array.length_toList, List.getElem?_take, List.getElem?_drop, Array.getElem?_toList]
     rw [Nat.min_eq_left hcl]
     by_cases c1 : o < l.length * c.sz
     ·rw [if_pos c1, if_pos c1, if_pos c1]
     ·rw [if_neg c1, if_neg c1]
      by_cases c2 : o - l.length * c.sz < news.length
      ·rw [if_pos c2, if_pos c2]
      ·rw [if_neg c2, if_neg c2]; congr 1; omega
    let f : Nat → Option Value := fun o => if o < l.length * c.sz then none else news[o - l.length * c.sz]?
    obtain ⟨g1, g2, g3, g4⟩ := hi.inPlace hmT hm1' r2 (cur' := cur') f (fun o v hv => by
     simp only [f] at hv
     split at hv
     ·cases hv
     ·rename_i hge
      refine ⟨by omega, ?_⟩
      rw [hat, if_neg hge, if_pos (List.getElem?_eq_some_iff.1 hv).1]; exact hv) (fun o ho => by rw [hat, if_pos ho])
    have hnewb : (w.setRow b' cur').heap[b']? = some (.cells cur' el (0, 0)) := setRow_heap w b' cur cur' el (0, 0) r2
    have hsz' : cur'.size = cur.size := by
     rw [← hcur', List.size_toArray]
     simp only [List.length_append, List.length_take, List.length_drop, Array.length_toList]
     rw [Nat.zero_add, hcs] at hfit'
     omega
    obtain ⟨k1, k2, k3⟩ := g1.addTok hNe.symm (bo := some b') (e := (l ++ l').length * c.sz) (c := cap * c.sz) (fun bb hbb => by
     cases hbb
     refine ⟨r1, ⟨cur', el, hnewb, by rw [hlen']; exact Nat.mul_le_mul_right _ hfit, by rw [hsz', ← r4]⟩, fun o ho => ?_, r6, fun i o w1 w2 => hi.tobj m hmT i o b' _ _ hm1' w1 w2, fun t ht e1 c1 w1 => ?_⟩
     ·rw [hlen', Nat.add_mul] at ho
      simp only [Gh.addCells, if_true, f]
      rw [if_neg (by omega), List.getElem?_eq_none (by rw [hnl]; omega), Option.or_none]
      exact r5 o (by omega)
     ·simp only [List.mem_filter, decide_eq_true_eq] at ht
      exact hi.tinj t ht.1 m hmT ht.2 b' _ _ _ _ w1 hm1')
    refine ⟨_, _, _, _, _, hr, hK, ?_, rfl, k1, g2.trans k2, g3.trans k3, Nat.le_refl _, g4⟩
    have hff := g2.trans k2
    rw [← hlen']
    refine .v _ _ (VR.head (us := (List.range (l.length * c.sz)).map vals ++ news) ?_ ?_ ?_ (by rw [hlen']; exact hfit) ⟨some b', by simp [Gh.setTok], rfl⟩)
    ·intro j u hj
     rw [List.getElem?_append] at hj
     show (G.addCells b' f).cell b' j = some u
     simp only [Gh.addCells, if_true, f]
     rw [o1] at hj
     split at hj
     ·rename_i hjl
      rw [if_pos hjl, Option.or_none]
      obtain ⟨hjl', rfl⟩ := range_vals hj
      have hq : (l.flatMap c.cells)[j]? = some _ := List.getElem?_eq_getElem (by rw [length_flat]; exact hjl)
      have hne : l ≠ [] := by intro e; subst e; simp at hjl
      have := ha hne
      simp only [Option.some.injEq, Addr.mk.injEq, and_true] at this
      obtain ⟨e1, e2⟩ := this
      subst e1 e2
      have hcell := hcc j _ hq
      rw [Nat.zero_add] at hcell
      exact hcell
     ·rename_i hjl
      rw [if_neg hjl, hj, r5 j (by omega)]; rfl
    ·intro u hu
     rcases List.mem_append.1 hu with hu | hu
     ·exact o2 u hu
     ·exact hs.one u hu
    ·exact flat_append o1 (fun j q hq => let ⟨u, a1, a2⟩ := o4 j q hq; ⟨u, a1, a2.mono hff⟩) (fun j q hq => let ⟨u, a1, a2⟩ := hnv j q hq; ⟨u, a1, a2.mono hff⟩)
 ·-- it grows
  have hnl : news.length = l'.length * c.sz := by rw [hs.size, hcs]
  have hbr : (l.length + l'.length) * i.bytes ≤ 140737488355328 := by rw [h4]; exact hroom
  have hr := run_app_grow (P := P) (ty := ty) (w := w) (ao := ao) (olds := (List.range (l.length * c.sz)).map vals) hd hd2 hd2n h1 h2 hs hfit (by omega)
   (fun w' hw' => by rw [hcs]; exact load_vals hi ha hcc hw' _ _) (growslice_fits (by omega) hbr)
  generalize hgc : grownCap w (l.length + l'.length) cap e = gc at hr
  have hgcl : l.length + l'.length ≤ gc := by rw [← hgc]; exact grownCap_ge _ _ _ _
  generalize hcur' : (((List.range (l.length * c.sz)).map vals).toArray ++ news.toArray ++ Builtin.zeroCells z.cells (gc - (l.length + l'.length))) = cur' at hr
  have hsz' : cur'.size = gc * c.sz := by
   rw [← hcur']
   simp only [Array.size_append, List.size_toArray, List.length_map, List.length_range, hnl, size_zeroCells, h6]
   have e1 : (tt.at e).size = c.sz := by rw [hc]; exact hsz.symm
   rw [e1, ← Nat.add_mul, ← Nat.add_mul]; congr 1; omega
  have hat : ∀ (j : Nat) u, ((List.range (l.length * c.sz)).map vals ++ news)[j]? = some u → cur'[j]? = some u := by
   intro j u hj
   have hjl := (List.getElem?_eq_some_iff.1 hj).1
   rw [← hcur', Array.getElem?_append_left (by simpa using hjl)]
   simpa using hj
  have hi0 : Inv Mine G s.hp ⟨s.T.n, tk.drop s.T.l⟩ w.drew := (hi.withT (T' := ⟨s.T.n, tk.drop s.T.l⟩) (Nat.le_refl _) (fun t ht => own_sub (t := tk) t ht)).heap rfl
  let f : Nat → Option Value := fun o => ((List.range (l.length * c.sz)).map vals ++ news)[o]?
  obtain ⟨g1, g2, g3, g4⟩ := hi0.addFrozen cur' e (0, 0) f (fun o v hv => hat o v hv)
  simp only [World.size_drew] at g1 g2 g3
  have hfl : ((List.range (l.length * c.sz)).map vals ++ news).length = (l ++ l').length * c.sz := by
   rw [List.length_append, o1, hnl, hlen', Nat.add_mul]
  obtain ⟨k1, k2, k3⟩ := g1.addTok hNe.symm (bo := some w.heap.size) (e := (l ++ l').length * c.sz) (c := gc * c.sz) (fun bb hbb => by
   cases hbb
   refine ⟨hi.mine _ (Nat.le_refl _), ⟨cur', e, ?_, by rw [hlen']; exact Nat.mul_le_mul_right _ hgcl, hsz'.symm⟩, fun o ho => ?_, (fresh_priv hi).2, fun i o w1 w2 => ?_, fun t ht e1 c1 w1 => ?_⟩
   ·have := heap_new w.drew (.cells cur' e)
    simpa using this
   ·simp only [Gh.addCells, if_true, f]
    rw [List.getElem?_eq_none (by rw [hfl]; exact ho), Option.or_none]
    exact (fresh_priv hi).1 o
   ·have := ((hi.objs i o w1).blk w2).2.2; omega
   ·obtain ⟨bo, e2, c2, x1, x2⟩ := hi.toks t (own_sub t ht)
    have w1' : G.tok t = some (some w.heap.size, e1, c1) := w1
    rw [w1'] at x1; cases x1
    obtain ⟨_, ⟨cc, el, x3, _⟩, _⟩ := x2 _ rfl
    have := heap_lt x3; omega)
  have hff := g2.trans k2
  refine ⟨_, _, _, _, _, hr, hK, ?_, rfl, k1, hff, g3.trans k3, Nat.le_refl _, (show Stp Mine w w.drew from ⟨rfl, rfl, rfl, Nat.le_refl _, fun _ _ => rfl⟩).trans g4⟩
  rw [← hlen']
  refine .v _ _ (VR.head (us := (List.range (l.length * c.sz)).map vals ++ news) ?_ ?_ ?_ (by rw [hlen']; exact hgcl) ⟨some w.heap.size, by simp [Gh.setTok], rfl⟩)
  ·intro j u hj
   show (G.addCells w.heap.size f).cell w.heap.size j = some u
   simp only [Gh.addCells, if_true, f, hj, (fresh_priv hi).1 j, Option.none_or]
  ·intro u hu
   rcases List.mem_append.1 hu with hu | hu
   ·exact o2 u hu
   ·exact hs.one u hu
  ·exact flat_append o1 (fun j q hq => let ⟨u, a1, a2⟩ := o4 j q hq; ⟨u, a1, a2.mono hff⟩) (fun j q hq => let ⟨u, a1, a2⟩ := hnv j q hq; ⟨u, a1, a2.mono hff⟩)


theorem append_list (htt : TTOK P tt) {t t2 e ty : Nat} (hok2 : (tt.at t2).ok = true) (he : sliceElem tt t = some e) (hsrc : isSrcK (tt.at t2).k = true) {c : Cd} {l l' : List c.T} {tk : Tok} {y : TV} {u v : Value}
  (hc : c = (tt.at e).code) (hy' : srcOf c y s.hp = some l') (hi : Inv Mine G s.hp s.T w) (hx : TR G (.v (.list c l tk)) u) (hy : TR G y v) {K : TV → St → Prop}
  (hown : tk.own s.T.l) (hroom : (l.length + l'.length) * (tt.at e).bytes ≤ room) (h : K (.v (.list c (l ++ l') (.tk s.T.n))) { s with T := ⟨s.T.n + 1, s.T.n :: tk.drop s.T.l⟩ }) :
  Res Mine G s w ((Builtin.append_ #[t, t2] ty #[u, v]).run P w) K := by
 obtain ⟨news, hs, hnv⟩ := src_sound (P := P) hi hy' hy
 exact append_listS htt hok2 he hsrc hc hs hnv hi hx hown hroom h

end
end Go.Proofs.YtdcljlafookliaaDoor.AB

namespace Go.Proofs.YtdcljlafookliaaDoor.AB
open Go

section
variable {P : Program} {tt : TT} {Mine : Mn} {G : Gh} {s : St} {a : Act} {w w' : World} {hp : Hp} {T : Toks}

theorem Inv.regen (h : Inv Mine G hp T w) (i : Nat) (o o' : O) (hi : hp[i]? = some (some o)) (hg : o'.gen = o.gen + 1) (hno : ∀ g, o.has g ↔ g = o.gen) (hno' : ∀ g, o'.has g ↔ g = o'.gen) (x : Option Nat × Nat × Nat)
  (hx : ∀ b, x.1 = some b → w.heap.size ≤ b ∨ ∃ s ct, G.loc i o.gen = some (some b, s, ct)) (hs : Stp Mine w w')
  (hw : ∀ k, k < w.heap.size → (∀ s ct, G.loc i o.gen ≠ some (some k, s, ct)) → w'.heap[k]? = w.heap[k]?) (ho : OR Mine (G.setLoc i (o.gen + 1) x) w' i o') :
  Inv Mine (G.setLoc i (o.gen + 1) x) (hp.set i (some o')) T w' ∧ Fz G (G.setLoc i (o.gen + 1) x) ∧ Lc hp.length G (G.setLoc i (o.gen + 1) x) := by
 have hil : i < hp.length := (List.getElem?_eq_some_iff.1 hi).1
 have hnone : G.loc i (o.gen + 1) = none := h.gens i o _ hi (Nat.lt_succ_self _)
 have hf : Fz G (G.setLoc i (o.gen + 1) x) := ⟨fun _ _ _ y => y, fun _ _ y => y, fun _ _ y => y, fun _ _ _ _ _ y => y⟩
 have hl : Lc hp.length G (G.setLoc i (o.gen + 1) x) := by
  intro j hj g y hy
  simp only [Gh.setLoc]
  rw [if_neg (fun e => by obtain ⟨rfl, rfl⟩ := e; rw [hnone] at hy; cases hy)]; exact hy
 have hlo : ∀ j g, j ≠ i → (G.setLoc i (o.gen + 1) x).loc j g = G.loc j g := by
  intro j g hj; simp only [Gh.setLoc]; rw [if_neg (fun e => hj e.1)]
 have hnew : ∀ j p, (hp.set i (some o'))[j]? = some (some p) → (j ≠ i ∧ hp[j]? = some (some p)) ∨ (j = i ∧ p = o') := by
  intro j p hj
  rw [List.getElem?_set] at hj
  split at hj
  ·rename_i e
   first
    | (rw [if_pos (by omega)] at hj; cases hj; exact .inr ⟨e.symm, rfl⟩)
    | (cases hj; exact .inr ⟨e.symm, rfl⟩)
  ·rename_i e
   exact .inl ⟨fun e' => e e'.symm, hj⟩
 have own : ∀ b s ct, G.loc i o.gen = some (some b, s, ct) → Mine b ∧ G.priv b ∧ b < w.heap.size := fun b s ct hb => (h.objs i o hi).blk ⟨_, s, ct, (hno _).2 rfl, hb⟩
 have keep : ∀ k, k < w.heap.size → (G.priv k → False) → w'.heap[k]? = w.heap[k]? := by
  intro k hk hp'
  exact hw k hk (fun s ct e => hp' (own k s ct e).2.1)
 have hoth : ∀ j p, j ≠ i → hp[j]? = some (some p) → ∀ b, Owns G j p b → w'.heap[b]? = w.heap[b]? := by
  intro j p hj hjp b hb
  exact hw b ((h.objs j p hjp).blk hb).2.2 (fun s' ct' e => h.inj i j o p b (Ne.symm hj) hi hjp ⟨_, s', ct', (hno _).2 rfl, e⟩ hb)
 have hlo' : ∀ j p b, j ≠ i → Owns (G.setLoc i (o.gen + 1) x) j p b → Owns G j p b := by
  rintro j p b hj ⟨g, s, c, h1, h2⟩
  exact ⟨g, s, c, h1, by rw [hlo _ _ hj] at h2; exact h2⟩
 have hgi : ∀ g, g ≠ o.gen + 1 → (G.setLoc i (o.gen + 1) x).loc i g = G.loc i g := by
  intro g hg'; simp only [Gh.setLoc]; rw [if_neg (fun e => hg' e.2)]
 have hgn : (G.setLoc i (o.gen + 1) x).loc i (o.gen + 1) = some x := by simp [Gh.setLoc]
 refine ⟨⟨?_, ?_, ?_, ?_, ?_, ?_, h.tinj, ?_, ?_, h.tfin, ?_, h.old⟩, hf, hl⟩
 ·intro b' o1 v hc
  rw [cell_of_heap (w := w) (by exact keep _ (h.cell_lt hc) (fun hp' => by have := hp'.1 o1; rw [show G.cell b' o1 = some v from hc] at this; cases this))]
  exact h.cells b' o1 v hc
 ·intro r es hr
  rw [keep r (h.mp_lt (r := r) (e := es) hr) (fun hp' => by have := hp'.2; rw [show G.mp r = some es from hr] at this; cases this)]
  exact h.mps r es hr
 ·intro j p hj
  rcases hnew j p hj with ⟨h1, h2⟩ | ⟨rfl, rfl⟩
  ·exact (h.objs j p h2).keep h.lb hf hl (fun b' hb' => ⟨hoth j p h1 h2 b' hb', id⟩) (fun _ _ g _ => hlo j g h1)
  ·exact ho
 ·intro j k oj ok b' hjk hj hk lj lk
  have main : ∀ j p, j ≠ i → hp[j]? = some (some p) → ∀ b', Owns G j p b' → Owns (G.setLoc i (o.gen + 1) x) i o' b' → False := by
   rintro j p hj hjp b' l1 ⟨g, s', c', q1, l2⟩
   rw [(hno' g).1 q1, hg, hgn] at l2
   have hxb : x.1 = some b' := by cases l2; rfl
   rcases hx b' hxb with q | ⟨s2, c2, q⟩
   ·have := ((h.objs j p hjp).blk l1).2.2; omega
   ·exact h.inj j i p o b' hj hjp hi l1 ⟨_, s2, c2, (hno _).2 rfl, q⟩
  rcases hnew j oj hj with ⟨h1, h2⟩ | ⟨e1, e2⟩
  ·have lj' := hlo' _ _ _ h1 lj
   rcases hnew k ok hk with ⟨k1, k2⟩ | ⟨e3, e4⟩
   ·exact h.inj j k oj ok b' hjk h2 k2 lj' (hlo' _ _ _ k1 lk)
   ·subst e3 e4; exact main j oj h1 h2 b' lj' lk
  ·subst e1 e2
   rcases hnew k ok hk with ⟨k1, k2⟩ | ⟨e3, e4⟩
   ·exact main k ok k1 k2 b' (hlo' _ _ _ k1 lk) lj
   ·exact hjk e3.symm
 ·intro t ht
  obtain ⟨bo, e, c, h1, h2⟩ := h.toks t ht
  refine ⟨bo, e, c, h1, fun b' hb' => ?_⟩
  obtain ⟨k1, ⟨cur', el', k2, k3⟩, k4⟩ := h2 b' hb'
  refine ⟨k1, ⟨cur', el', ?_, k3⟩, k4⟩
  rw [hw b' (heap_lt k2) (fun s ct e' => by subst hb'; exact h.tobj t ht i o b' e c h1 hi ⟨_, s, ct, (hno _).2 rfl, e'⟩)]; exact k2
 ·intro t ht j p b' e c h1 hj hl'
  have h1' : G.tok t = some (some b', e, c) := h1
  rcases hnew j p hj with ⟨k1, k2⟩ | ⟨e1, e2⟩
  ·exact h.tobj t ht j p b' e c h1' k2 (hlo' _ _ _ k1 hl')
  ·subst e1 e2
   obtain ⟨g, s', c', q1, hl'⟩ := hl'
   rw [(hno' g).1 q1, hg, hgn] at hl'
   have hxb : x.1 = some b' := by cases hl'; rfl
   rcases hx b' hxb with q | ⟨s2, c2, q⟩
   ·obtain ⟨bo, e', c'', q1, q2⟩ := h.toks t ht
    rw [h1'] at q1; cases q1
    obtain ⟨_, ⟨cur, el, q3, _⟩, _⟩ := q2 b' rfl
    have := heap_lt q3; omega
   ·exact h.tobj t ht j o b' e c h1' hi ⟨_, s2, c2, (hno _).2 rfl, q⟩
 ·intro j g hj
  simp only [List.length_set] at hj
  rw [hlo j g (by omega)]; exact h.lb j g hj
 ·intro j p g hj hgt
  rcases hnew j p hj with ⟨k1, k2⟩ | ⟨e1, e2⟩
  ·rw [hlo _ _ k1]; exact h.gens j p g k2 hgt
  ·subst e1 e2
   rw [hg] at hgt
   rw [hgi g (by omega)]; exact h.gens j o g hi (by omega)
 ·intro b' hb'
  exact h.mine b' (Nat.le_trans hs.size hb')

theorem cells_encT_no (c : Cd) (x : c.T) : (c.encT x .no).cells = c.cells x := by
 cases c <;> rfl

theorem OR.mkArr {i g b ct : Nat} {c : Cd} {l : List c.T} {cur : Array Value} {el : TypeId} {us : List Value} (hloc : G.loc i g = some (some b, c.sz, ct)) (hm : Mine b) (hp : G.priv b)
  (hb : w.heap[b]? = some (.cells cur el (0, 0))) (hsz : cur.size = ct * c.sz) (hle : l.length ≤ ct) (hus : ∀ (j : Nat) u, us[j]? = some u → cur[j]? = some u ∧ u.oneCell' = true)
  (hv : ∀ (j : Nat) q, (l.flatMap c.cells)[j]? = some q → ∃ u, us[j]? = some u ∧ VR G q u) : OR Mine G w i (.arr g c l (fun _ => .no)) := by
 refine ⟨some b, ct, hloc, hle, hm, hp, cur, el, hb, hsz, fun e x hx j y hy => ?_⟩
 rw [cells_encT_no] at hy
 obtain ⟨u, h1, h2⟩ := hv _ _ (flat_get c l hx hy)
 exact ⟨u, (hus _ u h1).1, h2, (hus _ u h1).2⟩

theorem arr_cells {c : Cd} {l : List c.T} {ts : Nat → Tok} {cur : Array Value} (h : ∀ (e : Nat) x, l[e]? = some x → ∀ (j : Nat) y, (c.encT x (ts e)).cells[j]? = some y → ∃ u, cur[e * c.sz + j]? = some u ∧ VR G y u ∧ u.oneCell' = true) :
  ∀ (j : Nat) q, (l.flatMap c.cells)[j]? = some q → ∃ u, cur[j]? = some u ∧ VR G q u ∧ u.oneCell' = true := by
 -- cells without tokens
 have h' : ∀ (e : Nat) x, l[e]? = some x → ∀ (j : Nat) y, (c.cells x)[j]? = some y → ∃ u, cur[e * c.sz + j]? = some u ∧ VR G y u ∧ u.oneCell' = true := by
  intro e x hx j y hy
  have hh := h e x hx j
  cases c with
  | slice c =>
   match j with
   | 0 =>
    simp [Cd.cells] at hy
    subst hy
    obtain ⟨u, h1, h2, h3⟩ := hh _ rfl
    exact ⟨u, h1, h2.norm0, h3⟩
   | j + 1 => simp [Cd.cells] at hy
  | _ => exact hh y hy
 clear h
 have gen : ∀ (l : List c.T) (k : Nat), (∀ (e : Nat) x, l[e]? = some x → ∀ (j : Nat) y, (c.cells x)[j]? = some y → ∃ u, cur[k + (e * c.sz + j)]? = some u ∧ VR G y u ∧ u.oneCell' = true) →
   ∀ (j : Nat) q, (l.flatMap c.cells)[j]? = some q → ∃ u, cur[k + j]? = some u ∧ VR G q u ∧ u.oneCell' = true := by
  intro l
  induction l with
  | nil => intro k _ j q hq; simp at hq
  | cons x l ih =>
   intro k hk j q hq
   simp only [List.flatMap_cons, List.getElem?_append, Cd.length_cells] at hq
   split at hq
   ·have := hk 0 x rfl j q hq
    simpa using this
   ·rename_i hj
    obtain ⟨u, h1, h2⟩ := ih (k + c.sz) (fun e y hy j q hq => by
     have := hk (e + 1) y (by simpa using hy) j q hq
     rw [Nat.succ_mul] at this
     rw [show k + c.sz + (e * c.sz + j) = k + (e * c.sz + c.sz + j) by omega]; exact this) (j - c.sz) q hq
    exact ⟨u, by rw [show k + j = k + c.sz + (j - c.sz) by omega]; exact h1, h2⟩
 intro j q hq
 have := gen l 0 (fun e x hx j y hy => by rw [Nat.zero_add]; exact h' e x hx j y hy) j q hq
 simpa using this

theorem append_arr_core (htt : TTOK P tt) {t t2 e ty : Nat} (he : sliceElem tt t = some e) {c : Cd} {l l' : List c.T} {ts : Nat → Tok} {u v : Value}
  {i g len : Nat} (hh : s.hp[i]? = some (some (.arr g c l ts)))
  (hc : c = (tt.at e).code) (hi : Inv Mine G s.hp s.T w) (hx : TR G (.arr i g 0 len) u) {K : TV → St → Prop}
  (hap : ∀ ti z, P.info? e = some ti → ti.zero = some z → ti.size = c.sz → ti.bytes = (tt.at e).bytes → (∀ G, VR G (tt.at e).zero z) → z.cells.size = (tt.at e).size → z.cells.all (·.oneCell') = true →
   ∃ news, Ap P w t2 ti z l'.length v news ∧ ∀ (j : Nat) q, (l'.flatMap c.cells)[j]? = some q → ∃ u, news[j]? = some u ∧ VR G q u)
  (hlen : len ≤ l.length) (hroom : (len + l'.length) * (tt.at e).bytes ≤ room)
  (h : K (.arr i (g + 1) 0 (len + l'.length)) (s.setO i (.arr (g + 1) c (l.take len ++ l') (fun _ => .no)))) :
  Res Mine G s w ((Builtin.append_ #[t, t2] ty #[u, v]).run P w) K := by
 obtain ⟨hd, _, hoke, hcok⟩ := sliceElem_ok htt he
 obtain ⟨hsz, hpos, hbpos⟩ := (htt e hoke).cok hcok
 obtain ⟨ti, z, h1, h2, h3, h4, h5, h6, h7, h8, h9⟩ := run_zero htt hoke w
 have hcs : ti.size = c.sz := by rw [hc, h3]; exact hsz.symm
 obtain ⟨news, hs, hnv⟩ := hap ti z h1 h2 hcs h4 h5 h6 h8
 have hnl : news.length = l'.length * c.sz := by rw [hs.size, hcs]
 have hlt' : (l.take len ++ l').length = len + l'.length := by simp; omega
 have hbr : (len + l'.length) * ti.bytes ≤ 140737488355328 := by rw [h4]; exact hroom
 -- what a grown array comes to
 have h63 : len + l'.length ≤ 140737488355328 := Nat.le_trans (Nat.le_mul_of_pos_right _ (by omega : 0 < ti.bytes)) hbr
 have grow : ∀ (olds : List Value) (ao : Option Addr) (cap : Nat), len ≤ cap → ¬ len + l'.length ≤ cap → u = .slice ao len cap → olds.length = len * c.sz → (∀ u ∈ olds, u.oneCell' = true) →
   (∀ w' : World, w'.heap = w.heap → (Builtin.firstCells ti.size len (.slice ao len cap)).run P w' = .ok olds.toArray w') →
   (∀ (j : Nat) q, ((l.take len).flatMap c.cells)[j]? = some q → ∃ u, olds[j]? = some u ∧ VR G q u) → Res Mine G s w ((Builtin.append_ #[t, t2] ty #[u, v]).run P w) K := by
  intro olds ao cap hlc hfit hu ho1 ho2 ho3 ho4
  subst hu
  have hr := run_ap_grow (P := P) (ty := ty) (w := w) (ao := ao) (olds := olds) hd h1 h2 hs hfit (by omega) (by rw [hcs, hc]; omega) ho3 hlc h63 (growslice_fits (by omega) hbr)
  generalize hgc : grownCap w (len + l'.length) cap e = gc at hr
  have hgcl : len + l'.length ≤ gc := by rw [← hgc]; exact grownCap_ge _ _ _ _
  generalize hcur' : (olds.toArray ++ news.toArray ++ Builtin.zeroCells z.cells (gc - (len + l'.length))) = cur' at hr
  have hsz' : cur'.size = gc * c.sz := by
   rw [← hcur']
   simp only [Array.size_append, List.size_toArray, ho1, hnl, size_zeroCells, h6]
   have e1 : (tt.at e).size = c.sz := by rw [hc]; exact hsz.symm
   rw [e1, ← Nat.add_mul, ← Nat.add_mul]; congr 1; omega
  have hat : ∀ (j : Nat) u, (olds ++ news)[j]? = some u → cur'[j]? = some u ∧ u.oneCell' = true := by
   intro j u hj
   have hjl := (List.getElem?_eq_some_iff.1 hj).1
   refine ⟨?_, ?_⟩
   ·rw [← hcur', Array.getElem?_append_left (by simpa using hjl)]
    simpa using hj
   ·rcases List.mem_append.1 (List.mem_of_getElem? hj) with q | q
    ·exact ho2 u q
    ·exact hs.one u q
  have hstp : Stp Mine w (w.drew.alloc (.cells cur' e)) :=
   ⟨rfl, rfl, rfl, by simp, fun k hk => by
    rw [heap_alloc_lt w.drew _ (by rcases Nat.lt_or_ge k w.heap.size with q | q; exact q; exact absurd (hi.mine k q) hk)]; rfl⟩
  have hnewb : (w.drew.alloc (.cells cur' e)).heap[w.heap.size]? = some (.cells cur' e) := by
   have := heap_new w.drew (.cells cur' e); simpa using this
  have hf0 : Fz G (G.setLoc i (g + 1) (some w.heap.size, c.sz, gc)) := ⟨fun _ _ _ y => y, fun _ _ y => y, fun _ _ y => y, fun _ _ _ _ _ y => y⟩
  obtain ⟨g1, g2, g3⟩ := hi.regen i (.arr g c l ts) (.arr (g + 1) c (l.take len ++ l') (fun _ => .no)) hh rfl (fun _ => Iff.rfl) (fun _ => Iff.rfl) (some w.heap.size, c.sz, gc) (fun b hb => by cases hb; exact .inl (Nat.le_refl _)) hstp
   (fun k hk _ => by rw [heap_alloc_lt w.drew _ hk]; rfl)
   (OR.mkArr (us := olds ++ news) (by simp [Gh.setLoc, O.gen]) (hi.mine _ (Nat.le_refl _)) ⟨(fresh_priv hi).1, (fresh_priv hi).2⟩ hnewb hsz' (by rw [hlt']; exact hgcl) hat
    (flat_append (by rw [ho1]; simp [Nat.min_eq_left hlen]) (fun j q hq => let ⟨u, a1, a2⟩ := ho4 j q hq; ⟨u, a1, a2.mono hf0.f0⟩) (fun j q hq => let ⟨u, a1, a2⟩ := hnv j q hq; ⟨u, a1, a2.mono hf0.f0⟩)))
  refine ⟨_, _, _, _, _, hr, h, ?_, rfl, g1, g2, g3, by simp [St.setO], hstp⟩
  exact .arr i (g + 1) 0 (len + l'.length) w.heap.size c.sz gc gc 0 (by simp [Gh.setLoc, O.gen]) hgcl (by omega) (fun _ => by simp)
 obtain ⟨bo, ct, hl1, hle, hbo⟩ := hi.objs i _ hh
 cases hx with
 | arrNil _ _ sz ct' hloc =>
  rw [hloc] at hl1; cases hl1
  have hl0 : l = [] := hbo
  subst hl0
  by_cases hfit : 0 + l'.length ≤ 0
  ·have hl0' : l' = [] := List.eq_nil_of_length_eq_zero (by omega)
   subst hl0'
   have hr := run_ap_zero (P := P) (ty := ty) (w := w) hd h1 hs (ao := none) (sLen := 0) (sCap := 0) (Nat.le_refl _)
   obtain ⟨g1, g2, g3⟩ := hi.regen i (.arr g c [] ts) (.arr (g + 1) c [] (fun _ => .no)) hh rfl (fun _ => Iff.rfl) (fun _ => Iff.rfl) (none, c.sz, ct) (fun b hb => by cases hb) (.refl _ _) (fun k _ _ => rfl)
    ⟨none, ct, by simp [Gh.setLoc, O.gen], by simp, rfl⟩
   refine ⟨_, _, _, _, _, hr, h, ?_, rfl, g1, g2, g3, by simp [St.setO], .refl _ _⟩
   exact .arrNil i (g + 1) c.sz ct (by simp [Gh.setLoc, O.gen])
  ·exact grow [] none 0 (Nat.le_refl _) hfit rfl (by simp) (by simp) (fun w' _ => by simp [Builtin.firstCells]) (by simp)
 | arr _ _ _ _ b sz ct' cap o hloc hlc hcp hoo =>
  rw [hloc] at hl1; cases hl1
  obtain ⟨hm, hpr, cur, el, hb, hcsz, hcells⟩ := hbo
  have hall := arr_cells hcells
  have hlcs : len * c.sz ≤ cur.size := by rw [hcsz]; exact Nat.mul_le_mul_right _ (by omega)
  have hold1 : (cur.toList.take (len * c.sz)).length = len * c.sz := by simp; omega
  have hflt : ∀ (j : Nat) q, ((l.take len).flatMap c.cells)[j]? = some q → j < len * c.sz ∧ (l.flatMap c.cells)[j]? = some q := by
   intro j q hq
   refine ⟨?_, flat_take c l len j q hq⟩
   have := (List.getElem?_eq_some_iff.1 hq).1
   rw [length_flat, List.length_take, Nat.min_eq_left hlen] at this; exact this
  have hold4 : ∀ (j : Nat) q, ((l.take len).flatMap c.cells)[j]? = some q → ∃ u, (cur.toList.take (len * c.sz))[j]? = some u ∧ VR G q u := by
   intro j q hq
   obtain ⟨hj, hq'⟩ := hflt j q hq
   obtain ⟨u, a1, a2, _⟩ := hall j q hq'
   exact ⟨u, by rw [List.getElem?_take, if_pos hj, Array.getElem?_toList]; exact a1, a2⟩
  have hold2 : ∀ u ∈ cur.toList.take (len * c.sz), u.oneCell' = true := by
   intro u hu
   obtain ⟨j, hj⟩ := List.getElem?_of_mem hu
   have hjl : j < len * c.sz := by rw [← hold1]; exact (List.getElem?_eq_some_iff.1 hj).1
   have hq : ((l.take len).flatMap c.cells)[j]? = some _ := List.getElem?_eq_getElem (by rw [length_flat, List.length_take, Nat.min_eq_left hlen]; exact hjl)
   obtain ⟨_, hq'⟩ := hflt j _ hq
   obtain ⟨u', a1, a2, a3⟩ := hall j _ hq'
   rw [List.getElem?_take, if_pos hjl, Array.getElem?_toList, a1] at hj
   cases hj; exact a3
  by_cases hfit : len + l'.length ≤ cap
  ·by_cases hcap0 : cap = 0
   ·have hl0' : l' = [] := List.eq_nil_of_length_eq_zero (by omega)
    have hlen0 : len = 0 := by omega
    subst hl0' hlen0 hcap0
    have hr := run_ap_zero (P := P) (ty := ty) (w := w) hd h1 hs (ao := some ⟨b, o, none⟩) (sLen := 0) (sCap := 0) (Nat.le_refl _)
    obtain ⟨g1, g2, g3⟩ := hi.regen i (.arr g c l ts) (.arr (g + 1) c (l.take 0 ++ []) (fun _ => .no)) hh rfl (fun _ => Iff.rfl) (fun _ => Iff.rfl) (some b, c.sz, ct) (fun b' hb' => by cases hb'; exact .inr ⟨_, _, hloc⟩) (.refl _ _) (fun k _ _ => rfl)
     ⟨some b, ct, by simp [Gh.setLoc, O.gen], by simp, hm, ⟨hpr.1, hpr.2⟩, cur, el, hb, hcsz, fun e x hx => by simp at hx⟩
    refine ⟨_, _, _, _, _, hr, h, ?_, rfl, g1, g2, g3, by simp [St.setO], .refl _ _⟩
    exact .arr i (g + 1) 0 0 b c.sz ct 0 o (by simp [Gh.setLoc, O.gen]) (Nat.le_refl _) (by omega) (fun h => by omega)
   ·have ho0 : o = 0 := by rw [hoo (by omega)]; simp
    subst ho0
    have hfit' : 0 + len * ti.size + news.length ≤ cur.size := by
     rw [Nat.zero_add, hcs, hnl, ← Nat.add_mul, hcsz]; exact Nat.mul_le_mul_right _ (by omega)
    have hr := run_ap_room (P := P) (ty := ty) hd h1 h2 hs hb hfit hfit'
    rw [Nat.zero_add, hcs] at hr
    generalize hcur' : (cur.toList.take (len * c.sz) ++ news ++ cur.toList.drop (len * c.sz + news.length)).toArray = cur' at hr
    have hnewb : (w.setRow b cur').heap[b]? = some (.cells cur' el (0, 0)) := setRow_heap w b cur cur' el (0, 0) hb
    have hsz' : cur'.size = ct * c.sz := by
     rw [← hcur', List.size_toArray, ← hcsz]
     simp only [List.length_append, List.length_take, List.length_drop, Array.length_toList]
     rw [Nat.zero_add, hcs] at hfit'
     omega
    have hat : ∀ (j : Nat) u, (cur.toList.take (len * c.sz) ++ news)[j]? = some u → cur'[j]? = some u ∧ u.oneCell' = true := by
     intro j u hj
     have hjl := (List.getElem?_eq_some_iff.1 hj).1
     refine ⟨?_, ?_⟩
     ·rw [← hcur', List.getElem?_toArray, List.getElem?_append_left hjl]; exact hj
     ·rcases List.mem_append.1 (List.mem_of_getElem? hj) with q | q
      ·exact hold2 u q
      ·exact hs.one u q
    have hf0 : Fz G (G.setLoc i (g + 1) (some b, c.sz, ct)) := ⟨fun _ _ _ y => y, fun _ _ y => y, fun _ _ y => y, fun _ _ _ _ _ y => y⟩
    obtain ⟨g1, g2, g3⟩ := hi.regen i (.arr g c l ts) (.arr (g + 1) c (l.take len ++ l') (fun _ => .no)) hh rfl (fun _ => Iff.rfl) (fun _ => Iff.rfl) (some b, c.sz, ct) (fun b' hb' => by cases hb'; exact .inr ⟨_, _, hloc⟩) (Stp.setRow hm)
     (fun k _ hk => setRow_other w b k cur' (fun e => hk c.sz ct (e ▸ hloc)))
     (OR.mkArr (us := cur.toList.take (len * c.sz) ++ news) (by simp [Gh.setLoc, O.gen]) hm ⟨hpr.1, hpr.2⟩ hnewb hsz' (by rw [hlt']; omega) hat
      (flat_append (by rw [hold1]; simp [Nat.min_eq_left hlen]) (fun j q hq => let ⟨u, a1, a2⟩ := hold4 j q hq; ⟨u, a1, a2.mono hf0.f0⟩) (fun j q hq => let ⟨u, a1, a2⟩ := hnv j q hq; ⟨u, a1, a2.mono hf0.f0⟩)))
    refine ⟨_, _, _, _, _, hr, h, ?_, rfl, g1, g2, g3, by simp [St.setO], Stp.setRow hm⟩
    exact .arr i (g + 1) 0 (len + l'.length) b c.sz ct cap 0 (by simp [Gh.setLoc, O.gen]) hfit hcp (fun _ => by simp)
  ·refine grow (cur.toList.take (len * c.sz)) (some ⟨b, o, none⟩) cap hlc hfit rfl hold1 hold2 (fun w' hw' => ?_) hold4
   rw [hcs]
   by_cases hcap0 : cap = 0
   ·have hlen0 : len = 0 := by omega
    subst hlen0
    simp [Builtin.firstCells, loadCells, loadCellsFrom]
   ·have ho0 : o = 0 := by rw [hoo (by omega)]; simp
    subst ho0
    simp only [Builtin.firstCells]
    have := run_loadCells_list (P := P) w' ⟨b, 0, none⟩ (cur.toList.take (len * c.sz)) (fun j y hy => by
     rw [addr_add, cell_heap hw', Nat.zero_add, cell_of_block hb]
     rw [List.getElem?_take] at hy
     split at hy
     ·simpa using hy
     ·cases hy)
    rw [hold1] at this
    exact this

theorem append_arr (htt : TTOK P tt) {t t2 e ty : Nat} (hok2 : (tt.at t2).ok = true) (he : sliceElem tt t = some e) (hsrc : isSrcK (tt.at t2).k = true) {c : Cd} {l l' : List c.T} {ts : Nat → Tok} {y : TV} {u v : Value}
  {i g len : Nat} (hh : s.hp[i]? = some (some (.arr g c l ts)))
  (hc : c = (tt.at e).code) (hy' : srcOf c y s.hp = some l') (hi : Inv Mine G s.hp s.T w) (hx : TR G (.arr i g 0 len) u) (hy : TR G y v) {K : TV → St → Prop}
  (hlen : len ≤ l.length) (hroom : (len + l'.length) * (tt.at e).bytes ≤ room)
  (h : K (.arr i (g + 1) 0 (len + l'.length)) (s.setO i (.arr (g + 1) c (l.take len ++ l') (fun _ => .no)))) :
  Res Mine G s w ((Builtin.append_ #[t, t2] ty #[u, v]).run P w) K := by
 obtain ⟨d2, hd2, hd2n⟩ := isSrcK_und htt hok2 hsrc
 refine append_arr_core htt he hh hc hi hx (fun ti z h1 h2 hcs h4 h5 h6 h8 => ?_) hlen hroom h
 obtain ⟨news, hs, hnv⟩ := src_sound (P := P) hi hy' hy
 rw [← hcs] at hs
 exact ⟨news, .inl ⟨d2, hd2, hd2n, hs⟩, hnv⟩

theorem append_zeros (htt : TTOK P tt) {t t2 e ty : Nat} (hok2 : (tt.at t2).ok = true) (he : sliceElem tt t = some e) {y : TV} {x : TV} {u v : Value}
  (hi : Inv Mine G s.hp s.T w) (hx : TR G x u) (hy : TR G y v) {K : TV → St → Prop} (h : appendZK tt e (tt.at t2).k x y s K) :
  Res Mine G s w ((Builtin.append_ #[t, t2] ty #[u, v]).run P w) K := by
 unfold appendZK at h
 split at h
 case h_2 => exact h.elim
 rename_i i g off len n k hk
 split at h
 case h_2 => exact h.elim
 rename_i g' c l ts hh
 split at h
 case h_2 => exact h.elim
 rename_i z0 hc hz0
 obtain ⟨h0, rfl, h3, h4, h⟩ := h
 have hc := of_decide_eq_true hc
 have hrl : (List.replicate n.toNat z0).length = n.toNat := by simp
 obtain ⟨d2, hd2, hkk⟩ := (htt t2 hok2).und
 rw [hk] at hkk
 simp only [KOK] at hkk
 subst hkk
 cases hy with | v _ _ hy =>
 cases hy
 refine append_arr_core (l' := List.replicate n.toNat z0) htt he (hp_get hh) hc hi hx (fun ti z h1 h2 hcs hb h5 h6 h8 => ?_) h3 (by rw [hrl]; exact h4) (by rw [hrl]; exact h)
 obtain ⟨hd, _, hoke, hcok⟩ := sliceElem_ok htt he
 obtain ⟨hsz, hpos, hbpos⟩ := (htt e hoke).cok hcok
 have hzs : z.cells.size = c.sz := by rw [h6, ← hsz, hc]
 have hnn : ((n.toNat : Nat) : Int) = n := Int.toNat_of_nonneg h0
 have get : ∀ j, j < n.toNat * c.sz → (Builtin.zeroCells z.cells n.toNat)[j]? = z.cells[j % c.sz]? := by
  intro j hj
  have hm : j % z.cells.size < z.cells.size := Nat.mod_lt _ (by rw [hzs]; exact Nat.pos_of_ne_zero (fun e => by rw [e] at hj; simp at hj))
  unfold Builtin.zeroCells
  rw [Array.getElem?_map, Array.getElem?_range, if_pos (by rw [hzs]; exact hj)]
  simp only [Option.map_some]
  rw [getElem!_pos z.cells _ hm, ← hzs, Array.getElem?_eq_getElem hm]
 have hsize : (Builtin.zeroCells z.cells n.toNat).size = n.toNat * c.sz := by rw [size_zeroCells, hzs]
 refine ⟨_, .inr ⟨k, hd2, by rw [hrl, hnn], ?_, by omega, rfl, by rw [Array.length_toList, hrl, hsize, hcs], fun u hu => ?_⟩, fun j q hq => ?_⟩
 ·rw [hrl]
  refine Nat.le_trans (Nat.mul_le_mul_right _ (Nat.le_add_left _ len)) ?_
  rw [hb]; exact h4
 ·obtain ⟨j, hj⟩ := List.getElem?_of_mem hu
  rw [hrl, Array.getElem?_toList] at hj
  have hlt : j < n.toNat * c.sz := by rw [← hsize]; exact (Array.getElem?_eq_some_iff.1 hj).1
  rw [get j hlt] at hj
  obtain ⟨hjj, rfl⟩ := Array.getElem?_eq_some_iff.1 hj
  exact Array.all_eq_true.1 h8 _ hjj
 ·obtain ⟨a, b, x, rfl, hb', hx', hq'⟩ := flat_split c _ hq
  have ha : a < n.toNat := by
   have := (List.getElem?_eq_some_iff.1 hx').1; simpa using this
  have hxz : x = z0 := by
   rw [List.getElem?_replicate, if_pos ha] at hx'; cases hx'; rfl
  subst hxz
  have hlt : a * c.sz + b < n.toNat * c.sz := by
   have : (a + 1) * c.sz ≤ n.toNat * c.sz := Nat.mul_le_mul_right _ (by omega)
   rw [Nat.succ_mul] at this; omega
  have hmod : (a * c.sz + b) % c.sz = b := by rw [Nat.mul_comm, Nat.mul_add_mod, Nat.mod_eq_of_lt hb']
  have hzr : TR G (.v (tt.at e).zero) z := .v _ _ (h5 _)
  obtain ⟨u, hu1, hu2⟩ := dec_cells hz0 hzr.toV b q hq'
  refine ⟨u, ?_, hu2⟩
  rw [hrl, Array.getElem?_toList, get _ hlt, hmod]
  exact hu1

end
end Go.Proofs.YtdcljlafookliaaDoor.AB

namespace Go.Proofs.YtdcljlafookliaaDoor.AB
open Go

def keyVal : (c : Cd) → c.T → Value
 | .int k, n => .int k n
 | .str, s => .string ⟨(s : List UInt8).toArray⟩
 | .bool, b => .bool b
 | _, _ => Go.undef

section
variable {P : Program} {tt : TT} {Mine : Mn} {G : Gh} {s : St} {a : Act} {w : World}

def Cd.isKey' : Cd → Bool
 | .int _ | .str | .bool => true
 | _ => false

theorem keyKind_isKey {k : TK} {c : Cd} (h : keyKind k c = true) : c.isKey' = true := by
 cases k <;> cases c <;> first | rfl | cases h

theorem key_R {c : Cd} (hk : c.isKey' = true) {x : c.T} {y : Value} (h : VR G (c.enc x) y) : y = keyVal c x := by
 cases c <;> first | (cases hk; done) | (cases h; rfl)

theorem keyOf_R {c : Cd} (hk : c.isKey' = true) {k : TV} {kv : Value} {x : c.T} (h : keyOf c k = some x) (hkv : TR G k kv) : kv = keyVal c x := by
 unfold keyOf at h
 split at h
 case h_2 => cases h
 rename_i p
 split at h
 case h_2 => cases h
 rename_i ho
 cases hkv with | v _ _ hkv =>
 obtain ⟨e1, e2⟩ := hkv.single ho
 have hc := dec_cells h hkv
 have : ∃ q, (c.cells x) = [q] ∧ q = c.enc x := by
  cases c <;> first | (cases hk; done) | exact ⟨_, rfl, rfl⟩
 obtain ⟨q, q1, q2⟩ := this
 obtain ⟨u, u1, u2⟩ := hc 0 q (by rw [q1]; rfl)
 rw [e2] at u1
 simp at u1
 subst u1
 rw [q2] at u2
 exact key_R hk u2

theorem sameNow_key {tk : TK} {d : TypeDesc} (hkk : KOK tt tk d) {c : Cd} (hk : keyKind tk c = true) (x y : c.T) : Instr.sameNow d (keyVal c x) (keyVal c y) = some (c.keq x y) := by
 cases tk <;> cases c <;> first | (cases hk; done) | skip
 ·simp only [KOK] at hkk; subst hkk; rfl
 ·simp only [KOK] at hkk; subst hkk
  simp only [Instr.sameNow, keyVal, Cd.keq, if_true]
  congr 1
 ·simp only [KOK] at hkk; subst hkk
  simp only [Instr.sameNow, keyVal, Cd.keq]
  congr 1
  show (List.toArray x == List.toArray y) = _
  rw [Bool.eq_iff_iff, beq_iff_eq, beq_iff_eq]
  constructor
  ·intro h; have := congrArg Array.toList h; simpa using this
  ·intro h; rw [h]

theorem findNow_spec {β : Type} {d : TypeDesc} {c : Cd} (hk : c.isKey' = true) (hs : ∀ x y : c.T, Instr.sameNow d (keyVal c x) (keyVal c y) = some (c.keq x y)) (x : c.T) :
  ∀ (es : List (c.T × β)) (ents : List MapEntry) (i : Nat), es.length = ents.length → (∀ (j : Nat) e m, es[j]? = some e → ents[j]? = some m → VR G (c.enc e.1) m.key) →
  (match mfind (c.keq x) es with
   | none => Instr.findNow d (keyVal c x) ents i = some none ∧ ∀ e ∈ es, c.keq x e.1 = false
   | some b => ∃ j m k, Instr.findNow d (keyVal c x) ents i = some (some (i + j, m.val)) ∧ es[j]? = some (k, b) ∧ ents[j]? = some m ∧ c.keq x k = true ∧
     ∀ j' e, j' < j → es[j']? = some e → c.keq x e.1 = false)
 | [], [], i, _, _ => by simp [mfind, Instr.findNow]
 | (k, b) :: es, m :: ents, i, hl, hp => by
  have hm : m.key = keyVal c k := key_R hk (hp 0 (k, b) m rfl rfl)
  have ih := findNow_spec hk hs x es ents (i + 1) (by simpa using hl) (fun j e m he hm => hp (j + 1) e m (by simpa using he) (by simpa using hm))
  simp only [mfind, Instr.findNow, hm, hs]
  cases hq : c.keq x k with
  | true => exact ⟨0, m, k, rfl, rfl, rfl, hq, fun j' e h => by omega⟩
  | false =>
   simp only
   cases hf : mfind (c.keq x) es with
   | none =>
    rw [hf] at ih
    refine ⟨ih.1, fun e he => ?_⟩
    rcases List.mem_cons.1 he with rfl | he
    ·exact hq
    ·exact ih.2 e he
   | some b' =>
    rw [hf] at ih
    obtain ⟨j, m', k', h1, h2, h3, h4, h5⟩ := ih
    refine ⟨j + 1, m', k', by rw [h1]; congr 3; omega, h2, h3, h4, fun j' e hj he => ?_⟩
    match j' with
    | 0 => simp at he; subst he; exact hq
    | j' + 1 => exact h5 j' e (by omega) (by simpa using he)

theorem mapCodes_ok (htt : TTOK P tt) {t : Nat} {kc vc : Cd} (h : mapCodes tt t = some (kc, vc)) :
  ∃ kt et, P.underlying t = some (.map kt et) ∧ (tt.at kt).ok = true ∧ (tt.at et).ok = true ∧ (tt.at et).cok = true ∧ keyKind (tt.at kt).k kc = true ∧ vc = (tt.at et).code ∧ mapElem tt t = et := by
 unfold mapCodes at h
 split at h
 case h_2 => cases h
 rename_i kt et h1 h2
 split at h
 case h_2 => cases h
 rename_i h3 h4 h5 h6
 cases h
 obtain ⟨d, hd, hk⟩ := (htt t h1).und
 rw [h2] at hk
 obtain ⟨rfl, _⟩ := hk
 exact ⟨kt, et, hd, h3, h4, h5, h6, rfl, by simp [mapElem, h2]⟩

theorem run_checkKey (htt : TTOK P tt) {kt : Nat} (hok : (tt.at kt).ok = true) {c : Cd} (hk : keyKind (tt.at kt).k c = true) (b : Bool) (x : c.T) :
  (Instr.checkKey b 10000 kt (keyVal c x)).run P w = .ok () w := by
 obtain ⟨d, hd, hkk⟩ := (htt kt hok).und
 have hu := run_underlying (P := P) hd w
 have gen : ∀ n, (Instr.checkKey b (n + 1) kt (keyVal c x)).run P w = .ok () w := by
  intro n
  simp only [Instr.checkKey, Sem.run_bind, hu, Result.andThen_ok]
  cases hkt : (tt.at kt).k <;> rw [hkt] at hk hkk <;> cases c <;> first | (cases hk; done) | skip
  all_goals (simp only [KOK] at hkk; subst hkk; rfl)
 exact gen 9999

theorem run_findKey (htt : TTOK P tt) {kt : Nat} (hok : (tt.at kt).ok = true) {kv : Value} {es : List MapEntry} {r : Option (Nat × Value)} {d : TypeDesc} (hd : P.underlying kt = some d)
  (h : Instr.findNow d kv es 0 = some r) : (Instr.findKey kt kv es).run P w = .ok r w := by
 simp only [Instr.findKey, Sem.run_bind, run_underlying hd, Result.andThen_ok, h, Sem.run_pure]

theorem lookK_sound {c : Cd} {tok ok : Bool} {r : Option (c.T × Tok)} {z : V} {K : TV → St → Prop} (h : lookK c tok ok r z s K) (hi : Inv Mine G s.hp s.T w) {rr : Result Value}
  (h1 : ∀ a t, r = some (a, t) → ∃ v, VR G (match tok with | true => c.encT a t | false => c.enc a) v ∧ rr = .ok (if ok then .tuple #[v, .bool true] else v) w)
  (h2 : r = none → ∃ v, VR G z v ∧ rr = .ok (if ok then .tuple #[v, .bool false] else v) w) : Res Mine G s w rr K := by
 have tup : ∀ {x : V} {v : Value} (b : Bool), VR G x v → VR G (.tup [x, .bool b]) (.tuple #[v, .bool b]) := by
  intro x v b hx
  refine .tup [x, .bool b] [v, .bool b] rfl (fun i p q hp hq => ?_)
  match i with
  | 0 => simp at hp hq; subst hp hq; exact hx
  | 1 => simp at hp hq; subst hp hq; exact .bool b
  | i + 2 => simp at hp
 obtain ⟨ha, hb⟩ := h
 cases r with
 | none =>
  obtain ⟨v, hv, hr⟩ := h2 rfl
  refine Res.same hi hr (hb rfl) (.v _ _ ?_)
  cases ok with
  | true => exact tup false hv
  | false => exact hv
 | some x =>
  obtain ⟨x, t⟩ := x
  obtain ⟨v, hv, hr⟩ := h1 x t rfl
  refine Res.same hi hr (ha x t rfl) (.v _ _ ?_)
  cases ok with
  | true => exact tup true hv
  | false => exact hv

theorem lookup_sound (htt : TTOK P tt) {t : Nat} {m k : TV} {mv kv : Value} {ok : Bool} {K : TV → St → Prop} (h : lookupK tt t m k ok s K) (hi : Inv Mine G s.hp s.T w)
  (hm : TR G m mv) (hk : TR G k kv) : Res Mine G s w ((Instr.lookup t mv kv ok).run P w) K := by
 unfold lookupK at h
 split at h
 case h_3 => exact h.elim
 ·rename_i kc vc i hmc
  split at h
  case h_2 => exact h.elim
  rename_i kc' vc' es hh
  split at h
  case h_2 => exact h.elim
  rename_i x h1 h2 hx
  have h1 := of_decide_eq_true h1
  have h2 := of_decide_eq_true h2
  subst h1 h2
  obtain ⟨kt, et, hd, hok1, hok2, hcok, hkk, hvc, hme⟩ := mapCodes_ok htt hmc
  have hik := keyKind_isKey hkk
  have hkv := keyOf_R hik hx hk
  subst hkv
  obtain ⟨d, hdk, hko⟩ := (htt kt hok1).und
  obtain ⟨b, sz, ct, l1, l2, l3, ents, ck, l4, l5, l6⟩ := hi.objs i _ (hp_get hh)
  cases hm with | mapr _ b' sz' ct' hloc =>
  rw [hloc] at l1; cases l1
  have hg : (getObj b).run P w = .ok (.map ents ck) w := by simp [getObj, Sem.run, l4]
  have hfs := findNow_spec (G := G) (β := vc'.T × Tok) hik (sameNow_key hko hkk) x es ents.toList 0 (by simpa using l5) (fun j e m he hm => (l6 j e m he (by simpa using hm)).1)
  obtain ⟨ti, z, z1, z2, z3, z4, z5, z6, z7, z8, z9⟩ := run_zero htt hok2 w
  refine lookK_sound h hi (fun p tk hp => ?_) (fun hp => ?_)
  ·rw [hp] at hfs
   obtain ⟨j, m, k', f1, f2, f3, f4, f5⟩ := hfs
   refine ⟨m.val, (l6 j _ m f2 (by simpa using f3)).2, ?_⟩
   simp only [Instr.lookup, Sem.run_bind, run_underlying hd, Result.andThen_ok, hg, Sem.run_pure, run_checkKey htt hok1 hkk, run_findKey htt hok1 hdk f1]
  ·rw [hp] at hfs
   rw [hme]
   refine ⟨z, z5 G, ?_⟩
   simp only [Instr.lookup, Sem.run_bind, run_underlying hd, Result.andThen_ok, hg, Sem.run_pure, run_checkKey htt hok1 hkk, run_findKey htt hok1 hdk hfs.1, z9]
 ·rename_i kc vc kc' vc' es hmc
  split at h
  case h_2 => exact h.elim
  rename_i x h1 h2 hx
  have h1 := of_decide_eq_true h1
  have h2 := of_decide_eq_true h2
  subst h1 h2
  obtain ⟨kt, et, hd, hok1, hok2, hcok, hkk, hvc, hme⟩ := mapCodes_ok htt hmc
  have hik := keyKind_isKey hkk
  have hkv := keyOf_R hik hx hk
  subst hkv
  obtain ⟨d, hdk, hko⟩ := (htt kt hok1).und
  cases hm with | v _ _ hm =>
  cases hm with | fmap _ _ _ r es' hmp hle hkr hvr =>
  obtain ⟨ents, ck, g1, g2⟩ := hi.mps r es' hmp
  have hg : (getObj r).run P w = .ok (.map ents ck) w := by simp [getObj, Sem.run, g1]
  have hent : ∀ (j : Nat) m, ents.toList[j]? = some m → es'[j]? = some (m.key, m.val) := by
   intro j m hj
   rw [← g2, List.getElem?_map, hj]; rfl
  have hle' : es.length = ents.toList.length := by rw [hle, ← g2]; simp
  have hfs := findNow_spec (G := G) (β := vc'.T) hik (sameNow_key hko hkk) x es ents.toList 0 hle' (fun j e m he hm => hkr j e _ he (hent j m hm))
  obtain ⟨ti, z, z1, z2, z3, z4, z5, z6, z7, z8, z9⟩ := run_zero htt hok2 w
  refine lookK_sound h hi (fun p tk hp => ?_) (fun hp => ?_)
  ·cases hf : mfind (kc'.keq x) es with
   | none => rw [hf] at hp; cases hp
   | some q =>
    rw [hf] at hp; cases hp
    rw [hf] at hfs
    obtain ⟨j, m, k', f1, f2, f3, f4, f5⟩ := hfs
    refine ⟨m.val, hvr j _ _ f2 (hent j m f3), ?_⟩
    simp only [Instr.lookup, Sem.run_bind, run_underlying hd, Result.andThen_ok, hg, Sem.run_pure, run_checkKey htt hok1 hkk, run_findKey htt hok1 hdk f1]
  ·cases hf : mfind (kc'.keq x) es with
   | some q => rw [hf] at hp; cases hp
   | none =>
    rw [hf] at hfs
    rw [hme]
    refine ⟨z, z5 G, ?_⟩
    simp only [Instr.lookup, Sem.run_bind, run_underlying hd, Result.andThen_ok, hg, Sem.run_pure, run_checkKey htt hok1 hkk, run_findKey htt hok1 hdk hfs.1, z9]

end
end Go.Proofs.YtdcljlafookliaaDoor.AB

namespace Go.Proofs.YtdcljlafookliaaDoor.AB
open Go

theorem mset_none {α β : Type} {eq : α → Bool} {k : α} {b : β} : ∀ {es : List (α × β)}, (∀ e ∈ es, eq e.1 = false) → mset eq k b es = es ++ [(k, b)]
 | [], _ => rfl
 | (a, b') :: es, h => by
  have h0 : eq a = false := h (a, b') (by simp)
  simp only [mset, h0, List.cons_append]
  rw [mset_none (fun e he => h e (by simp [he]))]

theorem mset_some {α β : Type} {eq : α → Bool} {k k' : α} {b b' : β} : ∀ {es : List (α × β)} {j : Nat}, es[j]? = some (k', b') → eq k' = true →
  (∀ j' e, j' < j → es[j']? = some e → eq e.1 = false) → mset eq k b es = es.set j (k, b)
 | [], j, h, _, _ => by simp at h
 | (a, c) :: es, 0, h, h1, _ => by
  simp at h
  obtain ⟨rfl, rfl⟩ := h
  simp [mset, h1]
 | (a, c) :: es, j + 1, h, h1, h2 => by
  have h0 : eq a = false := h2 0 (a, c) (by omega) rfl
  simp only [mset, h0, List.set_cons_succ]
  rw [mset_some (by simpa using h) h1 (fun j' e hj he => h2 (j' + 1) e (by omega) (by simpa using he))]

section
variable {P : Program} {tt : TT} {Mine : Mn} {G : Gh} {s : St} {a : Act} {w : World}

theorem encT_full {c : Cd} {z : TV} {b : c.T} (hd : c.dec z.toV = some b) (ha : z.toV.isAgg = c.isAgg) {y : Value} (hz : TR G z y) : VR G (c.encT b z.tok) y := by
 have hc := encT_R hd hz
 obtain ⟨h1, h2⟩ := dec_size hd hz.toV
 have hcl := Cd.length_encT c b z.tok
 cases hca : c.isAgg with
 | true =>
  rw [hca] at ha
  have hv := hz.toV
  cases hzz : z.toV <;> rw [hzz] at ha hv <;> first | (cases ha; done) | skip
  cases hv with | agg _ vs hl ho hp =>
  have hen : c.encT b z.tok = .agg (c.encT b z.tok).cells := by
   cases c <;> first | (cases hca; done) | rfl
  rw [hen]
  refine .agg _ vs (by rw [hcl, ← h1]; simp [Value.cells]) ho (fun i p q hp' hq => ?_)
  obtain ⟨u, u1, u2⟩ := hc i p hp'
  have : (Value.agg vs.toArray).cells[i]? = vs[i]? := by simp [Value.cells]
  rw [this, hq] at u1
  cases u1; exact u2
 | false =>
  rw [hca] at ha
  have hone : (c.encT b z.tok).cells = [c.encT b z.tok] := by
   cases c <;> first | (cases hca; done) | rfl
  obtain ⟨u, u1, u2⟩ := hc 0 _ (by rw [hone]; rfl)
  have hy : y.cells = #[y] := by
   have hv := hz.toV
   have hnu : z.toV ≠ .undef := by
    intro e; rw [e] at hd; simp [Cd.dec] at hd
   cases hzz : z.toV <;> rw [hzz] at ha hv hnu <;> first | (cases ha; done) | skip
   all_goals first | exact absurd rfl hnu | (cases hv; rfl)
  rw [hy] at u1
  simp at u1
  subst u1
  exact u2

theorem sameBits_key {c : Cd} (hk : c.isKey' = true) (x : c.T) : Instr.sameBits 10000 (keyVal c x) (keyVal c x) = true := by
 cases c <;> first | (cases hk; done) | skip
 ·simp [keyVal, Instr.sameBits]
 ·simp [keyVal, Instr.sameBits]
 ·show (List.toArray x == List.toArray x) = true
  simp

theorem keq_eq {c : Cd} (hk : c.isKey' = true) {x y : c.T} (h : c.keq x y = true) : x = y := by
 cases c <;> first | (cases hk; done) | (simpa [Cd.keq] using h)

theorem key_enc {c : Cd} (hk : c.isKey' = true) (x : c.T) : VR G (c.enc x) (keyVal c x) := by
 cases c <;> first | (cases hk; done) | exact .int _ _ | exact .bool _ | exact .str _

theorem run_setObj {r : Nat} {o o' : Obj} (h : w.heap[r]? = some o) (hc : ∀ c e f, o ≠ .cells c e f) : (Go.setObj r o').run P w = .ok () { w with heap := w.heap.setIfInBounds r o' } := by
 simp only [Go.setObj, Sem.run, h]

theorem mapUpdate_sound (htt : TTOK P tt) {t : Nat} {m k x : TV} {mv kv xv : Value} {K : TV → St → Prop} (h : mapUpdateK tt t m k x s K) (hi : Inv Mine G s.hp s.T w)
  (hm : TR G m mv) (hk : TR G k kv) (hxv : TR G x xv) : Res Mine G s w (unitR ((Instr.mapUpdate t mv kv xv).run P w)) K := by
 unfold mapUpdateK at h
 split at h
 case h_2 => exact h.elim
 rename_i kc vc i hmc
 split at h
 case h_2 => exact h.elim
 rename_i kc' vc' es hh
 split at h
 case h_2 => exact h.elim
 rename_i a b h1 h2 hx hb hagg
 have h1 := of_decide_eq_true h1
 have h2 := of_decide_eq_true h2
 subst h1 h2
 have hagg := eq_of_beq hagg
 obtain ⟨kt, et, hd, hok1, hok2, hcok, hkk, hvc, hme⟩ := mapCodes_ok htt hmc
 have hik := keyKind_isKey hkk
 have hkv := keyOf_R hik hx hk
 subst hkv
 obtain ⟨d, hdk, hko⟩ := (htt kt hok1).und
 have hh' := hp_get hh
 obtain ⟨r, sz, ct, l1, l2, l3, ents, ck, l4, l5, l6⟩ := hi.objs i _ hh'
 cases hm with | mapr _ b' sz' ct' hloc =>
 have hloc' := hloc
 rw [hloc] at l1; cases l1
 have hg : (getObj r).run P w = .ok (.map ents ck) w := by simp [getObj, Sem.run, l4]
 have hfs := findNow_spec (G := G) (β := vc'.T × Tok) hik (sameNow_key hko hkk) a es ents.toList 0 (by simpa using l5) (fun j e m he hm => (l6 j e m he (by simpa using hm)).1)
 have hval := encT_full hb hagg hxv
 have hrl := heap_lt l4
 have finish : ∀ (ents' : Array MapEntry) (ck' : Nat) (es' : List (kc'.T × vc'.T × Tok)), (Instr.mapUpdate t (.map (some r)) (keyVal kc' a) xv).run P w = .ok () { w with heap := w.heap.setIfInBounds r (.map ents' ck') } →
   es'.length = ents'.size → (∀ (j : Nat) e m, es'[j]? = some e → ents'[j]? = some m → VR G (kc'.enc e.1) m.key ∧ VR G (vc'.encT e.2.1 e.2.2) m.val) →
   K (.v .undef) (s.setO i (.map kc' vc' es')) → Res Mine G s w (unitR ((Instr.mapUpdate t (.map (some r)) (keyVal kc' a) xv).run P w)) K := by
  intro ents' ck' es' hr hl hp hK
  have hstp : Stp Mine w { w with heap := w.heap.setIfInBounds r (.map ents' ck') } :=
   ⟨rfl, rfl, rfl, by simp, fun k hk => by
    show (w.heap.setIfInBounds r (.map ents' ck'))[k]? = _
    rw [Array.getElem?_setIfInBounds, if_neg (fun (e : r = k) => hk (e ▸ l2))]⟩
  refine ⟨_, _, G, .v .undef, s.setO i (.map kc' vc' es'), by rw [hr]; rfl, hK, TR.undef _, rfl, ?_, .refl _, .refl _ _, by simp [St.setO], hstp⟩
  refine hi.setObj i _ (.map kc' vc' es') hh' rfl (fun _ h => h) r ⟨0, sz, ct, rfl, hloc'⟩ hstp (fun k hk => ?_) ⟨r, sz, ct, hloc', l2, l3, ents', ck', ?_, hl, hp⟩
  ·show (w.heap.setIfInBounds r (.map ents' ck'))[k]? = _
   rw [Array.getElem?_setIfInBounds, if_neg (fun (e : r = k) => hk e.symm)]
  ·show (w.heap.setIfInBounds r (.map ents' ck'))[r]? = _
   rw [Array.getElem?_setIfInBounds, if_pos rfl, if_pos hrl]
 cases hf : mfind (kc'.keq a) es with
 | none =>
  rw [hf] at hfs
  refine finish (ents.push { key := keyVal kc' a, val := xv, born := ck }) (ck + 1) _ ?_ ?_ ?_ h
  ·simp only [Instr.mapUpdate, Sem.run_bind, run_underlying hd, Result.andThen_ok, hg, run_checkKey htt hok1 hkk, run_findKey htt hok1 hdk hfs.1, run_setObj l4 (by intro c e f h; cases h)]
  ·rw [mset_none hfs.2]; simp [l5]
  ·intro j e m he hm
   rw [mset_none hfs.2, List.getElem?_append] at he
   rw [Array.getElem?_push] at hm
   split at he
   ·rename_i hj
    rw [if_neg (by omega)] at hm
    exact l6 j e m he hm
   ·rename_i hj
    have hje : j = ents.size := by
     have := (List.getElem?_eq_some_iff.1 he).1
     simp at this; omega
    subst hje
    rw [if_pos rfl] at hm
    cases hm
    rw [← l5, Nat.sub_self] at he
    simp at he
    subst he
    exact ⟨key_enc hik a, hval⟩
 | some q =>
  rw [hf] at hfs
  obtain ⟨j, m, k', f1, f2, f3, f4, f5⟩ := hfs
  have hka := keq_eq hik f4
  subst hka
  have hmk : m.key = keyVal kc' a := key_R hik (l6 j _ m f2 (by simpa using f3)).1
  have f3' : ents[j]? = some m := by simpa using f3
  have hjl := (Array.getElem?_eq_some_iff.1 f3').1
  refine finish (ents.modify j fun e => { e with key := keyVal kc' a, val := xv }) ck _ ?_ ?_ ?_ h
  ·have e1 : ((ents[j]?).map (·.key)).getD (keyVal kc' a) = keyVal kc' a := by
    rw [f3']; simp [hmk]
   have e2 : (Instr.keyThatStays (keyVal kc' a) (keyVal kc' a)).run P w = .ok (keyVal kc' a) w := by
    simp [Instr.keyThatStays, sameBits_key hik]
   simp only [Instr.mapUpdate, Sem.run_bind, run_underlying hd, Result.andThen_ok, hg, run_checkKey htt hok1 hkk, run_findKey htt hok1 hdk f1, Nat.zero_add, e1, e2,
    run_setObj l4 (by intro c e f h; cases h)]
  ·rw [mset_some f2 f4 f5]; simp [l5]
  ·intro j' e m' he hm'
   rw [mset_some f2 f4 f5, List.getElem?_set] at he
   rw [Array.getElem?_modify] at hm'
   by_cases hjj : j = j'
   ·subst hjj
    rw [if_pos rfl, if_pos (by omega)] at he
    cases he
    rw [if_pos rfl, f3'] at hm'
    cases hm'
    exact ⟨key_enc hik a, hval⟩
   ·rw [if_neg hjj] at he hm'
    exact l6 j' e m' he hm'

end
end Go.Proofs.YtdcljlafookliaaDoor.AB

namespace Go.Proofs.YtdcljlafookliaaDoor.AB
open Go

def Entered (P : Program) (f : FuncId) : Prop := ∃ fn, P.funcs[f]? = some fn ∧ fn.name ≠ "runtime.NumGoroutine" ∧ fn.body.isSome = true

def CallPost (Mine : Mn) (G : Gh) (s : St) (w : World) (K : TV → St → Prop) (e : Ending) (w' : World) : Prop :=
 ∃ v x s' G', e = .returned v ∧ K x s' ∧ TR G' x v ∧ s'.tm = s.tm ∧ Inv Mine G' s'.hp s'.T w' ∧ Fz G G' ∧ Lc s.hp.length G G' ∧ s.hp.length ≤ s'.hp.length ∧ Stp Mine w w'

def Comes (P : Program) (f : FuncId) (vs : Array Value) (w : World) (R : Ending → World → Prop) : Prop :=
 (Entered P f ∧ Calls P f vs w R) ∨ ∃ y w', (callFunc f vs).run P w = .ok (.value y) w' ∧ R (.returned y) w'

theorem Comes.mono {P : Program} {f : FuncId} {vs : Array Value} {w : World} {R R' : Ending → World → Prop} (h : Comes P f vs w R) (hr : ∀ e w', R e w' → R' e w') : Comes P f vs w R' := by
 rcases h with ⟨h1, h2⟩ | ⟨y, w', h1, h2⟩
 ·exact .inl ⟨h1, h2.mono hr⟩
 ·exact .inr ⟨y, w', h1, hr _ _ h2⟩

def ComesM (P : Program) (m : String) (vs : Array Value) (w : World) (R : Ending → World → Prop) : Prop :=
 ∃ f as, (callMethod (vs.getD 0 Go.undef) m (vs.extract 1 vs.size)).run P w = .ok (.enter f as) w ∧ Calls P f as w R

def ComesX (md : Md) (P : Program) (f : FuncId) (vs : Array Value) (w : World) (R : Ending → World → Prop) : Prop :=
 match md with
 | .meth m _ => ComesM P m vs w R
 | _ => Comes P f vs w R

theorem ComesX.nm {md : Md} {P : Program} {f : FuncId} {vs : Array Value} {w : World} {R : Ending → World → Prop} (h : ComesX md.nm P f vs w R) : Comes P f vs w R := by
 cases md <;> exact h

def CallS (P : Program) (call : CallP) : Prop := ∀ md f args s K, call md f args s K → ∀ Mine G w (vs : Array Value), Inv Mine G s.hp s.T w → args.length = vs.size →
 (∀ (i : Nat) x y, args[i]? = some x → vs[i]? = some y → TR G x y) → ComesX md P f vs w (CallPost Mine G s w K)

section
variable {P : Program} {tt : TT} {Mine : Mn} {G : Gh} {s : St} {a : Act} {w : World}

def Behind (Mine : Mn) (G : Gh) (s : St) (w : World) (dst : Option Nat) (K : TV → St → Prop) (next : Act → World → Prop) : Prop :=
 ∀ x s' G' a' w', K x s' → s'.tm = s.tm → Rel Mine G' (s'.put dst x) a' w' → Fz G G' → Lc s.hp.length G G' → s.hp.length ≤ s'.hp.length → Stp Mine w w' → next a' w'

theorem wp_value {o : Oper} {S : Sem Value} {K : TV → St → Prop} {next : Act → World → Prop} {Q : Exit → Act → World → Prop} (hr : Rel Mine G s a w)
  (he : execOp a.eval o = (do pure (.value (← S)))) (h : Res Mine G s w (S.run P w) K) (hn : Behind Mine G s w o.dst K next) : o.wp P a w next Q := by
 obtain ⟨y, w', G', x, s', h1, h2, h3, h4, h5, h6, h7, h8, h9⟩ := h
 unfold Oper.wp
 rw [he, Sem.run_bind, h1, Result.andThen_ok]
 show next (a.put o.dst y) w'
 exact hn x s' G' _ _ h2 h4 (hr.put h3 h4 h5 h6 h7) h6 h7 h8 h9

theorem wp_unit {o : Oper} {S : Sem Unit} {K : TV → St → Prop} {next : Act → World → Prop} {Q : Exit → Act → World → Prop} (hr : Rel Mine G s a w)
  (he : execOp a.eval o = (do S; pure .skip)) (h : Res Mine G s w (unitR (S.run P w)) K) (hn : Behind Mine G s w o.dst K next) : o.wp P a w next Q := by
 obtain ⟨y, w', G', x, s', h1, h2, h3, h4, h5, h6, h7, h8, h9⟩ := h
 cases hS : S.run P w with
 | halt hh ww => rw [hS] at h1; simp [unitR] at h1
 | ok u ww =>
  rw [hS] at h1
  simp only [unitR, Result.andThen_ok, Result.ok.injEq] at h1
  obtain ⟨rfl, rfl⟩ := h1
  unfold Oper.wp
  rw [he, Sem.run_bind, hS, Result.andThen_ok]
  show next (a.put o.dst Go.undef) ww
  exact hn x s' G' _ _ h2 h4 (hr.put h3 h4 h5 h6 h7) h6 h7 h8 h9

theorem wp_pure {o : Oper} {y : Value} {x : TV} {K : TV → St → Prop} {next : Act → World → Prop} {Q : Exit → Act → World → Prop} (hr : Rel Mine G s a w)
  (he : execOp a.eval o = pure (.value y)) (hxy : TR G x y) (h : K x s) (hn : Behind Mine G s w o.dst K next) : o.wp P a w next Q := by
 unfold Oper.wp
 rw [he, Sem.run_pure]
 show next (a.put o.dst y) w
 exact hn x s G _ _ h rfl (hr.put hxy rfl hr.inv (.refl _) (.refl _ _)) (.refl _) (.refl _ _) (Nat.le_refl _) (.refl _ _)

theorem PR_map (hr : Rel Mine G s a w) (ty : Nat) : ∀ (l : List (Nat × Operand)), PR G (l.map fun (i, x) => (i, s.ev tt ty x)) (l.map fun (i, x) => (i, a.eval x))
 | [] => trivial
 | (i, x) :: l => ⟨rfl, hr.ev ty x, PR_map hr ty l⟩

theorem args_R (hr : Rel Mine G s a w) (ty : Nat) (l : List Operand) : (∀ (i : Nat) x y, (l.map (s.ev tt ty))[i]? = some x → (l.map a.eval)[i]? = some y → TR G x y) := by
 intro i x y hx hy
 rw [List.getElem?_map] at hx hy
 cases hl : l[i]? with
 | none => rw [hl] at hx; cases hx
 | some o => rw [hl] at hx hy; cases hx; cases hy; exact hr.ev ty o

theorem opt_R (hr : Rel Mine G s a w) (o : Option Operand) : OptR G (o.map (s.ev tt 0)) (o.map a.eval) := by
 cases o with
 | none => trivial
 | some o => exact hr.ev 0 o

theorem max2_sound {k k' : IntKind} {x y : Int} {ts : Array TypeId} {ty : TypeId} : (Builtin.max_ ts ty #[.int k x, .int k' y]).run P w = .ok (.int k (if y > x then y else x)) w := by
 simp [Builtin.max_, Builtin.max2]

theorem min2_sound {k k' : IntKind} {x y : Int} {ts : Array TypeId} {ty : TypeId} : (Builtin.min_ ts ty #[.int k x, .int k' y]).run P w = .ok (.int k (if y < x then y else x)) w := by
 simp [Builtin.min_, Builtin.min2]

theorem builtin_sound (htt : TTOK P tt) {b : Builtin} {args : List TV} {ts : List Nat} {vs : List Value} {ty : TypeId} {cs : Array Bool} {K : TV → St → Prop} (h : builtinK tt b args ts s K)
  (hok : ts.all (fun t => (tt.at t).ok) = true) (hi : Inv Mine G s.hp s.T w) (hl : args.length = vs.length) (hp : ∀ (i : Nat) x y, args[i]? = some x → vs[i]? = some y → TR G x y) :
  ∃ S : Sem Value, builtin b ts.toArray ty cs vs.toArray = (do pure (.value (← S))) ∧ Res Mine G s w (S.run P w) K := by
 unfold builtinK at h
 split at h
 ·rename_i x
  split at h
  ·rename_i t
   match vs, hl with
   | [v], _ =>
    refine ⟨Builtin.len_ #[t] ty #[v], rfl, len_sound htt (by simpa using hok) h hi (hp 0 x v rfl rfl)⟩
  ·exact h.elim
 ·rename_i x y
  split at h
  ·rename_i t t2
   match vs, hl with
   | [u, v], _ =>
    refine ⟨Builtin.append_ #[t, t2] ty #[u, v], rfl, ?_⟩
    simp only [List.all_cons, List.all_nil, Bool.and_true, Bool.and_eq_true] at hok
    unfold appendK at h
    split at h
    case h_1 =>
     rename_i e he hsrc
     exact append_zeros htt hok.2 he hi (hp 0 _ u rfl rfl) (hp 1 y v rfl rfl) h
    case h_3 => exact h.elim
    rename_i e he hsrc
    split at h
    ·rename_i c l tk
     split at h
     ·rename_i l' hc hy
      exact append_list htt hok.2 he hsrc (of_decide_eq_true hc) hy hi (hp 0 _ u rfl rfl) (hp 1 y v rfl rfl) h.1 h.2.1 h.2.2
     ·exact h.elim
    ·rename_i i g off len
     split at h
     ·rename_i g' c l ts hh
      split at h
      ·rename_i l' hc hy
       obtain ⟨rfl, h1, h2, h3⟩ := h
       exact append_arr htt hok.2 he hsrc (hp_get hh) (of_decide_eq_true hc) hy hi (hp 0 _ u rfl rfl) (hp 1 y v rfl rfl) h1 h2 h3
      ·exact h.elim
     ·exact h.elim
    ·exact h.elim
  ·exact h.elim
 ·rename_i k x k' y
  split at h
  ·match vs, hl with
   | [u, v], _ =>
    have h1 := hp 0 _ u rfl rfl
    have h2 := hp 1 _ v rfl rfl
    cases h1 with | v _ _ h1 =>
    cases h1
    cases h2 with | v _ _ h2 =>
    cases h2
    exact ⟨Builtin.max_ ts.toArray ty #[.int k x, .int k' y], rfl, Res.same hi max2_sound h (.v _ _ (.int _ _))⟩
  ·exact h.elim
 ·rename_i k x k' y
  split at h
  ·match vs, hl with
   | [u, v], _ =>
    have h1 := hp 0 _ u rfl rfl
    have h2 := hp 1 _ v rfl rfl
    cases h1 with | v _ _ h1 =>
    cases h1
    cases h2 with | v _ _ h2 =>
    cases h2
    exact ⟨Builtin.min_ ts.toArray ty #[.int k x, .int k' y], rfl, Res.same hi min2_sound h (.v _ _ (.int _ _))⟩
  ·exact h.elim
 ·exact h.elim

theorem addGhost {hp : Hp} {T : Toks} (h : Inv Mine G hp T w) (o : O) (sz ct : Nat) (hno : ∀ g, o.has g ↔ g = o.gen) (ho : OR Mine (G.setLoc hp.length o.gen (none, sz, ct)) w hp.length o) :
  Inv Mine (G.setLoc hp.length o.gen (none, sz, ct)) (hp ++ [some o]) T w ∧ Fz G (G.setLoc hp.length o.gen (none, sz, ct)) ∧ Lc hp.length G (G.setLoc hp.length o.gen (none, sz, ct)) := by
 have hf : Fz G (G.setLoc hp.length o.gen (none, sz, ct)) := ⟨fun _ _ _ x => x, fun _ _ x => x, fun _ _ x => x, fun _ _ _ _ _ x => x⟩
 have hlo : ∀ i g, i < hp.length → (G.setLoc hp.length o.gen (none, sz, ct)).loc i g = G.loc i g := by
  intro i g hi; simp only [Gh.setLoc]; rw [if_neg (by omega)]
 have hl : Lc hp.length G (G.setLoc hp.length o.gen (none, sz, ct)) := by
  intro i hi g x hx; rw [hlo i g hi]; exact hx
 have hnew : ∀ i o', (hp ++ [some o])[i]? = some (some o') → (i < hp.length ∧ hp[i]? = some (some o')) ∨ (i = hp.length ∧ o' = o) := by
  intro i o' hi
  rw [List.getElem?_append] at hi
  split at hi
  ·exact .inl ⟨by assumption, hi⟩
  ·have : i = hp.length := by
    rcases Nat.lt_or_ge (i - hp.length) 1 with h' | h'
    ·omega
    ·rw [List.getElem?_eq_none (by simpa using h')] at hi; cases hi
   subst this
   simp at hi
   exact .inr ⟨rfl, hi.symm⟩
 have hno : ∀ b, ¬ Owns (G.setLoc hp.length o.gen (none, sz, ct)) hp.length o b := by
  rintro b ⟨g, s, c, h1, h2⟩
  rw [(hno g).1 h1] at h2; simp [Gh.setLoc] at h2
 have hlo' : ∀ i o' b, i < hp.length → Owns (G.setLoc hp.length o.gen (none, sz, ct)) i o' b → Owns G i o' b := by
  rintro i o' b hi ⟨g, s, c, h1, h2⟩
  exact ⟨g, s, c, h1, by rw [hlo _ _ hi] at h2; exact h2⟩
 refine ⟨⟨h.cells, h.mps, ?_, ?_, h.toks, ?_, h.tinj, ?_, ?_, h.tfin, h.mine, h.old⟩, hf, hl⟩
 ·intro i o' hi
  rcases hnew i o' hi with ⟨h1, h2⟩ | ⟨rfl, rfl⟩
  ·exact (h.objs i o' h2).keep h.lb hf hl (fun b hb => ⟨rfl, id⟩) (fun _ _ g _ => hlo i g h1)
  ·exact ho
 ·intro i j oi oj b hij hi hj li lj
  rcases hnew i oi hi with ⟨h1, h2⟩ | ⟨rfl, rfl⟩
  ·rcases hnew j oj hj with ⟨k1, k2⟩ | ⟨rfl, rfl⟩
   ·exact h.inj i j oi oj b hij h2 k2 (hlo' _ _ _ h1 li) (hlo' _ _ _ k1 lj)
   ·exact hno _ lj
  ·exact hno _ li
 ·intro t ht i o' b e c h1 hi hl'
  rcases hnew i o' hi with ⟨k1, k2⟩ | ⟨rfl, rfl⟩
  ·exact h.tobj t ht i o' b e c h1 k2 (hlo' _ _ _ k1 hl')
  ·exact hno _ hl'
 ·intro i g hi
  simp only [List.length_append, List.length_cons, List.length_nil] at hi
  simp only [Gh.setLoc]
  rw [if_neg (by omega)]; exact h.lb i g (by omega)
 ·intro i o' g hi hg
  rcases hnew i o' hi with ⟨k1, k2⟩ | ⟨rfl, rfl⟩
  ·rw [hlo _ _ k1]; exact h.gens i o' g k2 hg
  ·simp only [Gh.setLoc]
   rw [if_neg (by omega)]; exact h.lb _ g (Nat.le_refl _)

theorem allocMut_sound (htt : TTOK P tt) {e el : Nat} (hok : (tt.at e).ok = true) (hse : sliceElem tt e = some el) (hi : Inv Mine G s.hp s.T w) {K : TV → St → Prop}
  (h : K (.ptr (s.hp.length + 1) 0 0 0) ((s.addO (.arr 0 (tt.at el).code [] (fun _ => .no))).addO (.box (.arr s.hp.length 0 0 0)))) : Res Mine G s w ((Instr.alloc e true (.tuple #[])).run P w) K := by
 obtain ⟨i, h1, h2⟩ := (htt e hok).nil (by
  unfold sliceElem at hse
  split at hse
  ·rename_i hk; rw [hk]; rfl
  ·cases hse)
 have hz : (zeroValue e).run P w = .ok (.slice none 0 0) w := by simp [zeroValue, typeInfo, h1, h2]
 have hr : (Instr.alloc e true (.tuple #[])).run P w = .ok (.pointer (some ⟨w.heap.size, 0, none⟩)) (w.alloc (.cells (Value.slice none 0 0).cells e)) := by
  simp [Instr.alloc, hz, newVar, newRow]
 rw [hr]
 obtain ⟨g1, g2, g3⟩ := addGhost hi (.arr 0 (tt.at el).code [] (fun _ => .no)) (tt.at el).code.sz 0 (fun _ => Iff.rfl) ⟨none, 0, by simp [Gh.setLoc, O.gen], by simp, rfl⟩
 obtain ⟨y, w', G', x, s', k1, k2, k3, k4, k5, k6, k7, k8, k9⟩ := addBox (s := s.addO (.arr 0 (tt.at el).code [] (fun _ => .no))) (x := .arr s.hp.length 0 0 0) (y := .slice none 0 0) g1 e rfl (fun j z u hz hu => by
  match j with
  | 0 =>
   simp [TV.cells, Value.cells] at hz hu
   subst hz hu
   exact ⟨.arrNil _ _ (tt.at el).code.sz 0 (by simp [Gh.setLoc, O.gen]), rfl⟩
  | j + 1 => simp [TV.cells] at hz) (K := K) (by
   have : (s.addO (.arr 0 (tt.at el).code [] (fun _ => .no))).hp.length = s.hp.length + 1 := by simp [St.addO]
   rw [this]; exact h)
 refine ⟨y, w', G', x, s', k1, k2, k3, k4, k5, g2.trans k6, g3.trans (k7.mono (by simp [St.addO])), ?_, k9⟩
 simp only [St.addO, List.length_append, List.length_cons, List.length_nil] at k8
 omega

theorem call_sound {call : CallP} (hcs : CallS P call) {md : Md} {f : FuncId} {args : List TV} {vs : Array Value} {o : Oper} {K : TV → St → Prop} {next : Act → World → Prop} {Q : Exit → Act → World → Prop}
  (hr : Rel Mine G s a w) (h : call md.nm f args s K) (hl : args.length = vs.size) (hp : ∀ (i : Nat) x y, args[i]? = some x → vs[i]? = some y → TR G x y)
  (he : execOp a.eval o = callFunc f vs) (hn : Behind Mine G s w o.dst K next) : o.wp P a w next Q := by
 rcases (hcs md.nm f args s K h Mine G w vs hr.inv hl hp).nm with ⟨⟨fn, hf, hname, hbody⟩, hc⟩ | ⟨y, w', hrun, hpost⟩
 rotate_left
 ·obtain ⟨v, x, s', G', hv, h2, h3, h4, h5, h6, h7, h8, h9⟩ := hpost
  cases hv
  unfold Oper.wp
  rw [he, hrun]
  exact hn x s' G' _ _ h2 h4 (hr.put h3 h4 h5 h6 h7) h6 h7 h8 h9
 have hrun : (callFunc f vs).run P w = .ok (.enter f vs) w := by
  simp [callFunc, hf, hname]
  intro hb
  rw [hb] at hbody; cases hbody
 unfold Oper.wp
 rw [he, hrun]
 refine hc.mono (fun e w' hpost => ?_)
 obtain ⟨v, x, s', G', rfl, h2, h3, h4, h5, h6, h7, h8, h9⟩ := hpost
 exact hn x s' G' _ _ h2 h4 (hr.put h3 h4 h5 h6 h7) h6 h7 h8 h9

theorem call_soundM {call : CallP} (hcs : CallS P call) {m : String} {c : Cd} {args : List TV} {vs : Array Value} {o : Oper} {K : TV → St → Prop} {next : Act → World → Prop} {Q : Exit → Act → World → Prop}
  (hr : Rel Mine G s a w) (h : call (.meth m c) 0 args s K) (hl : args.length = vs.size) (hp : ∀ (i : Nat) x y, args[i]? = some x → vs[i]? = some y → TR G x y)
  (he : execOp a.eval o = callMethod (vs.getD 0 Go.undef) m (vs.extract 1 vs.size)) (hn : Behind Mine G s w o.dst K next) : o.wp P a w next Q := by
 obtain ⟨f, as, hrun, hc⟩ : ComesM P m vs w (CallPost Mine G s w K) := hcs (.meth m c) 0 args s K h Mine G w vs hr.inv hl hp
 unfold Oper.wp
 rw [he, hrun]
 refine hc.mono (fun e w' hpost => ?_)
 obtain ⟨v, x, s', G', rfl, h2, h3, h4, h5, h6, h7, h8, h9⟩ := hpost
 exact hn x s' G' _ _ h2 h4 (hr.put h3 h4 h5 h6 h7) h6 h7 h8 h9

theorem Res.lit {r : Result Value} {K : TV → St → Prop} (h : Res Mine G s w r (litK K)) : Res Mine G s w r K := by
 obtain ⟨y, w', G', x, s', h1, h2, h3, h4, h5, h6, h7, h8, h9⟩ := h
 unfold litK at h2
 split at h2
 ·have : y = .bool true := by cases h3 with | v _ _ h => cases h; rfl
  subst this
  exact ⟨_, w', G', .v .tt, s', h1, h2, .v _ _ .tt, h4, h5, h6, h7, h8, h9⟩
 ·have : y = .bool false := by cases h3 with | v _ _ h => cases h; rfl
  subst this
  exact ⟨_, w', G', .v .ff, s', h1, h2, .v _ _ .ff, h4, h5, h6, h7, h8, h9⟩
 ·exact h2.elim

theorem aop0_sound (htt : TTOK P tt) {call : CallP} (hcs : CallS P call) {md : Md} {o : Oper} {K : TV → St → Prop} {next : Act → World → Prop} {Q : Exit → Act → World → Prop}
  (h : aop0 tt call md o s K) (hr : Rel Mine G s a w) (hn : Behind Mine G s w o.dst K next) : o.wp P a w next Q := by
 unfold aop0 at h
 split at h
 case h_1 => exact h.elim
 rename_i hty
 cases hop : o.op <;> rw [hop] at h hty <;> dsimp only at h
 case move x => exact wp_pure hr (by simp [execOp, hop]) (hr.ev o.type x) h hn
 case assign x =>
  split at h
  ·split at h
   ·rename_i e he
    obtain ⟨h1, h2, h3⟩ := addGhost hr.inv (.arr 0 (tt.at e).code [] (fun _ => .no)) (tt.at e).code.sz 0 (fun _ => Iff.rfl) ⟨none, 0, by simp [Gh.setLoc, O.gen], by simp, rfl⟩
    unfold Oper.wp
    rw [show execOp a.eval o = pure (.value (a.eval (.const (.slice none 0 0)))) by simp [execOp, hop], Sem.run_pure]
    show next (a.put o.dst (.slice none 0 0)) w
    exact hn _ _ _ _ _ h rfl (hr.put (s' := s.addO (.arr 0 (tt.at e).code [] (fun _ => .no))) (.arrNil _ _ (tt.at e).code.sz 0 (by simp [Gh.setLoc, O.gen])) rfl h1 h2 h3) h2 h3 (by simp [St.addO]) (.refl _ _)
   ·exact h.elim
  ·exact wp_pure hr (by simp [execOp, hop]) (hr.ev o.type x) h hn
 case pick c x y =>
  exact wp_value hr (S := do pure (if ← asBool (a.eval c) then a.eval x else a.eval y)) (by simp [execOp, hop]) (pick_sound h hr.inv (hr.ev 0 c) (hr.ev o.type x) (hr.ev o.type y)) hn
 case alloc e =>
  have hok : (tt.at e).ok = true := by simpa [opTys] using hty
  split at h
  ·split at h
   ·rename_i el he
    exact wp_value hr (by simp [execOp, hop]) (allocMut_sound htt hok he hr.inv h) hn
   ·exact h.elim
  ·exact wp_value hr (by simp [execOp, hop]) (alloc_sound htt hok hr.inv h) hn
 case box e x =>
  split at h
  ·rename_i ho
   exact wp_value hr (S := Instr.box e (a.eval x)) (by simp [execOp, hop]) (box_sound (e := e) hr.inv (hr.ev e x) ho h) hn
  ·exact h.elim
 case build t parts =>
  exact wp_value hr (S := Instr.build t (parts.map fun (i, x) => (i, a.eval x))) (by simp [execOp, hop]) (build_sound htt (by simpa [opTys] using hty) h hr.inv (by rw [Array.toList_map]; exact PR_map hr 0 parts.toList)) hn
 case buildSlice t len parts =>
  split at h
  ·exact wp_value hr (S := Instr.buildSlice t len (parts.map fun (i, x) => (i, a.eval x))) (by simp [execOp, hop]) (buildBox_sound htt h hr.inv (by rw [Array.toList_map]; exact PR_map hr 0 parts.toList)) hn
  ·exact wp_value hr (S := Instr.buildSlice t len (parts.map fun (i, x) => (i, a.eval x))) (by simp [execOp, hop]) (buildArr_sound htt h hr.inv (by rw [Array.toList_map]; exact PR_map hr 0 parts.toList)) hn
  ·exact wp_value hr (S := Instr.buildSlice t len (parts.map fun (i, x) => (i, a.eval x))) (by simp [execOp, hop]) (buildSlice_sound htt h hr.inv (by rw [Array.toList_map]; exact PR_map hr 0 parts.toList)) hn
 case load t x => exact wp_value hr (by simp [execOp, hop]) (load_sound htt (by simpa [opTys] using hty) h hr.inv (hr.ev 0 x)) hn
 case store t x y => exact wp_unit hr (by simp [execOp, hop]) (store_sound htt (by simpa [opTys] using hty) h hr.inv (hr.ev 0 x) (hr.ev t y)) hn
 case nilCheck x =>
  split at h
  ·rename_i hnil
   have hv := nilCheck_val hnil (hr.ev 0 x)
   refine wp_pure hr ?_ (hr.ev 0 x) h hn
   simp only [execOp, hop]
   split <;> first | rfl | skip
   all_goals (rename_i hx; rw [hx] at hv; cases hv)
  ·exact h.elim
 case binOp op t x y yt =>
  split at h
  ·exact wp_value hr (by simp [execOp, hop]) (bin_sound htt h hr.inv (hr.ev 0 x) (hr.ev 0 y)).lit hn
  ·exact wp_value hr (by simp [execOp, hop]) (nilEq_sound (xo := x) (yo := y) htt h hr.inv (hr.ev 0 x) (hr.ev 0 y)) hn
  ·exact wp_value hr (by simp [execOp, hop]) (bin_sound htt h hr.inv (hr.ev 0 x) (hr.ev 0 y)) hn
 case unOp op t x => exact wp_value hr (by simp [execOp, hop]) (un_sound h hr.inv (hr.ev 0 x)) hn
 case convert src dst x =>
  simp only [opTys, List.all_cons, List.all_nil, Bool.and_true, Bool.and_eq_true] at hty
  exact wp_value hr (by simp [execOp, hop]) (convert_sound htt hty.1 hty.2 h hr.inv (hr.ev src x)) hn
 case makeFunc fn first caps =>
  cases fn
  case method => exact h.elim
  case methodOf => exact h.elim
  case via => exact h.elim
  case yield => exact h.elim
  rename_i f
  dsimp only at h
  split at h
  case h_2 => exact h.elim
  rename_i hfirst
  have hf0 : first = #[] := by apply Array.ext'; simpa using hfirst
  subst hf0
  refine wp_value hr (S := Instr.makeFunc (.func f) #[] (caps.map a.eval)) (by simp [execOp, hop])
   (makeFunc_sound (caps := caps.toList.map (s.ev tt 0)) (by simp) (fun i x y hx hy => args_R hr 0 caps.toList i x y hx (by simpa using hy)) h hr.inv) hn
 case makeMap t r =>
  cases r with
  | some r => exact h.elim
  | none =>
   dsimp only at h
   split at h
   ·rename_i kc vc hmc
    exact wp_value hr (S := Instr.makeMap t none) (by simp [execOp, hop]) (makeMap_sound h hr.inv) hn
   ·exact h.elim
 case makeSlice t l c =>
  split at h
  ·exact wp_value hr (by simp [execOp, hop]) (makeList_sound htt h hr.inv (hr.ev 0 l) (hr.ev 0 c)) hn
  ·exact wp_value hr (by simp [execOp, hop]) (makeSlice_sound htt h hr.inv (hr.ev 0 l) (hr.ev 0 c)) hn
 case slice t x lo hi mx => exact wp_value hr (by simp [execOp, hop]) (slice_sound htt (by simpa [opTys] using hty) h hr.inv (hr.ev t x) (opt_R hr lo) (opt_R hr hi) (opt_R hr mx)) hn
 case fieldAddr t x f => exact wp_value hr (by simp [execOp, hop]) (fieldAddr_sound htt (by simpa [opTys] using hty) h hr.inv (hr.ev 0 x)) hn
 case field t x f => exact wp_value hr (by simp [execOp, hop]) (field_sound htt (by simpa [opTys] using hty) h hr.inv (hr.ev t x)) hn
 case indexAddr t x i => exact wp_value hr (by simp [execOp, hop]) (indexAddr_sound htt (by simpa [opTys] using hty) h hr.inv (hr.ev t x) (hr.ev 0 i)) hn
 case index t x i => exact wp_value hr (by simp [execOp, hop]) (index_sound htt (by simpa [opTys] using hty) h hr.inv (hr.ev t x) (hr.ev 0 i)) hn
 case lookup t m k ok => exact wp_value hr (by simp [execOp, hop]) (lookup_sound htt h hr.inv (hr.ev t m) (hr.ev 0 k)) hn
 case mapUpdate t m k x => exact wp_unit hr (by simp [execOp, hop]) (mapUpdate_sound htt h hr.inv (hr.ev t m) (hr.ev 0 k) (hr.ev 0 x)) hn
 case extract x i => exact wp_value hr (by simp [execOp, hop]) (extract_sound h hr.inv (hr.ev 0 x)) hn
 case call c =>
  have hargs := args_R (tt := tt) hr 0 c.args.toList
  split at h
  ·rename_i b hcal
   simp only [opTys, hcal] at hty
   obtain ⟨S, h1, h2⟩ := builtin_sound (ty := o.type) (cs := c.args.map fun | .const _ => true | _ => false) (vs := c.args.toList.map a.eval) htt h hty hr.inv (by simp) hargs
   refine wp_value hr (S := S) ?_ h2 hn
   have e1 : c.argTypes.toList.toArray = c.argTypes := by simp
   have e2 : (c.args.toList.map a.eval).toArray = c.args.map a.eval := by apply Array.ext'; simp
   rw [e1, e2] at h1
   rw [← h1]
   simp only [execOp, hop, resolve, hcal, pure_bind, invoke]
   rfl
  ·rename_i f hcal
   have hfv := hr.ev (tt := tt) 0 f
   split at h
   ·rename_i f' hf
    rw [hf] at hfv
    cases hfv with | v _ _ hfv =>
    have hfe : a.eval f = .func (.func f') #[] #[] := by
     generalize a.eval f = u at hfv
     cases hfv; rfl
    refine call_sound hcs hr h (vs := c.args.map a.eval) (by simp) (fun i x y hx hy => hargs i x y hx (by simpa using hy)) ?_ hn
    simp [execOp, hop, resolve, hcal, hfe, Deferred.ofValue, invoke]
   ·rename_i f' caps hf
    rw [hf] at hfv
    obtain ⟨vs, hl, hp, hfe⟩ : ∃ vs : List Value, caps.length = vs.length ∧ (∀ (i : Nat) x y, caps[i]? = some x → vs[i]? = some y → TR G x y) ∧ a.eval f = .func (.func f') #[] vs.toArray := by
     generalize a.eval f = u at hfv
     cases hfv with | clo _ _ vs hl hp => exact ⟨vs, hl, hp, rfl⟩
    refine call_sound hcs hr h (vs := c.args.map a.eval ++ vs.toArray) (by simp [hl]) (fun i x y hx hy => ?_) ?_ hn
    ·rw [List.getElem?_append] at hx
     rw [Array.getElem?_append] at hy
     simp only [List.length_map, Array.length_toList, Array.size_map] at hx hy
     split at hx
     ·rename_i hi
      rw [if_pos hi] at hy
      exact hargs i x y hx (by simpa using hy)
     ·rename_i hi
      rw [if_neg hi] at hy
      exact hp _ x y hx (by simpa using hy)
    ·simp [execOp, hop, resolve, hcal, hfe, Deferred.ofValue, invoke]
   ·exact h.elim
  ·rename_i r m hcal
   unfold invokeK at h
   split at h
   ·refine call_soundM hcs hr h (vs := #[a.eval r] ++ c.args.map a.eval) (by simp; omega) (fun i x y hx hy => ?_) ?_ hn
    ·cases i with
     | zero =>
      rw [Array.getElem?_append] at hy
      simp at hx hy
      subst hx hy
      exact hr.ev 0 r
     | succ i =>
      rw [List.getElem?_cons_succ] at hx
      rw [Array.getElem?_append] at hy
      simp at hy
      exact hargs i x y hx (by simpa using hy)
    ·have e0 : (#[a.eval r] ++ c.args.map a.eval)[0]? = some (a.eval r) := by rw [Array.getElem?_append]; simp
     simp [execOp, hop, resolve, hcal, invoke, e0]
   ·exact h.elim
 all_goals exact h.elim

end
end Go.Proofs.YtdcljlafookliaaDoor.AB

namespace Go.Proofs.YtdcljlafookliaaDoor.AB
open Go

theorem Xd.length_cells : (c : Xd) → (x : c.T) → (c.cells x).length = c.sz
 | .pure c, x => by simp [Xd.cells, Xd.sz, Cd.length_cells]
 | .ref _, _ => rfl
 | .sl _, _ => rfl
 | .mp _ _, _ => rfl
 | .ifc, _ => rfl
 | .pair a b, p => by simp [Xd.cells, Xd.sz, Xd.length_cells a, Xd.length_cells b]
 | .vec n a, f => by
  simp only [Xd.cells, Xd.sz]
  induction n with
  | zero => simp
  | succ n ih => simp [List.range_succ, ih, Xd.length_cells a, Nat.succ_mul]

theorem Xd.cells_one : (c : Xd) → (x : c.T) → ∀ q ∈ c.cells x, q.one = true
 | .pure c, x, q, h => by
  simp only [Xd.cells, List.mem_map] at h
  obtain ⟨y, hy, rfl⟩ := h
  exact Cd.cells_one c x y hy
 | .ref _, _, q, h => by simp [Xd.cells] at h; subst h; rfl
 | .sl _, _, q, h => by simp [Xd.cells] at h; subst h; rfl
 | .mp _ _, _, q, h => by simp [Xd.cells] at h; subst h; rfl
 | .ifc, _, q, h => by simp [Xd.cells] at h; subst h; rfl
 | .pair a b, p, q, h => by
  simp only [Xd.cells, List.mem_append] at h
  rcases h with h | h
  ·exact Xd.cells_one a _ q h
  ·exact Xd.cells_one b _ q h
 | .vec n a, f, q, h => by
  simp only [Xd.cells, List.mem_flatMap] at h
  obtain ⟨i, _, h⟩ := h
  exact Xd.cells_one a _ q h

theorem Xd.cells_enc (c : Xd) (x : c.T) : (c.enc x).cells = c.cells x := by
 cases c <;> first
  | rfl
  | exact mkAgg_cells _
  | skip
 simp only [Xd.enc, TV.cells, Cd.cells_enc, Xd.cells]

theorem Xd.enc_flat {c : Xd} (h : c.isAgg = false) (x : c.T) : c.cells x = [c.enc x] := by
 cases c <;> first
  | rfl
  | cases h
  | skip
 rename_i c
 simp only [Xd.cells, Xd.enc, Xd.isAgg] at h ⊢
 rw [cells_one_enc h]; rfl

theorem allV_map : ∀ l : List V, TV.allV (l.map .v) = some l
 | [] => rfl
 | x :: l => by simp [TV.allV, allV_map l]

theorem Xd.enc_agg {c : Xd} (h : c.isAgg = true) (x : c.T) : c.enc x = TV.mkAgg (c.cells x) := by
 cases c <;> first
  | rfl
  | cases h
  | skip
 rename_i c
 simp only [Xd.isAgg] at h
 simp only [Xd.enc, Xd.cells, TV.mkAgg, allV_map]
 cases c <;> first
  | rfl
  | cases h

theorem vec_get (a : Xd) (f : Nat → a.T) (n i j : Nat) (hi : i < n) (hj : j < a.sz) :
  ((List.range n).flatMap fun i => a.cells (f i))[i * a.sz + j]? = (a.cells (f i))[j]? := by
 induction n generalizing i with
 | zero => omega
 | succ n ih =>
  rw [List.range_succ, List.flatMap_append]
  have hl := Xd.length_cells (.vec n a) f
  simp only [Xd.cells, Xd.sz] at hl
  rw [List.getElem?_append, hl]
  rcases Nat.lt_or_ge i n with h | h
  ·have : i * a.sz + j < n * a.sz := by
    have := Nat.mul_le_mul_right a.sz (show i + 1 ≤ n from h)
    rw [Nat.succ_mul] at this; omega
   rw [if_pos this, ih i h]
  ·obtain rfl : i = n := by omega
   rw [if_neg (by omega)]
   simp [show i * a.sz + j - i * a.sz = j by omega]

theorem Xd.off_le : ∀ (c : Xd) (p : List Stp1), c.okp p → c.off p + (c.at p).sz ≤ c.sz
 | .pure c, p, h => by cases p with
  | nil => simp [Xd.off, Xd.at]
  | cons s p => simp [Xd.okp] at h
 | .ref c, p, h => by cases p with
  | nil => simp [Xd.off, Xd.at]
  | cons s p => simp [Xd.okp] at h
 | .sl c, p, h => by cases p with
  | nil => simp [Xd.off, Xd.at]
  | cons s p => simp [Xd.okp] at h
 | .mp _ _, p, h => by cases p with
  | nil => simp [Xd.off, Xd.at]
  | cons s p => simp [Xd.okp] at h
 | .ifc, p, h => by cases p with
  | nil => simp [Xd.off, Xd.at]
  | cons s p => simp [Xd.okp] at h
 | .pair a b, p, h => by
  cases p with
  | nil => simp [Xd.off, Xd.at]
  | cons s p =>
   cases s with
   | fst => simp only [Xd.okp] at h; have := Xd.off_le a p h; simp only [Xd.off, Xd.at, Xd.sz]; omega
   | snd => simp only [Xd.okp] at h; have := Xd.off_le b p h; simp only [Xd.off, Xd.at, Xd.sz]; omega
   | idx i => simp [Xd.okp] at h
 | .vec n a, p, h => by
  cases p with
  | nil => simp [Xd.off, Xd.at]
  | cons s p =>
   cases s with
   | fst => simp [Xd.okp] at h
   | snd => simp [Xd.okp] at h
   | idx i =>
    simp only [Xd.okp] at h
    have h1 := Xd.off_le a p h.2
    have h2 := Nat.mul_le_mul_right a.sz (show i + 1 ≤ n from h.1)
    rw [Nat.succ_mul] at h2
    simp only [Xd.off, Xd.at, Xd.sz]; omega

theorem Xd.rd_at : ∀ (c : Xd) (p : List Stp1) (x : c.T), c.okp p → ∃ y : (c.at p).T, c.rd p x = (c.at p).enc y ∧
  ∀ (j : Nat), j < (c.at p).sz → (c.cells x)[c.off p + j]? = ((c.at p).cells y)[j]?
 | .pure c, p, x, h => by cases p with
  | nil => exact ⟨x, rfl, fun j _ => by simp [Xd.off, Xd.at]⟩
  | cons s p => simp [Xd.okp] at h
 | .ref c, p, x, h => by cases p with
  | nil => exact ⟨x, rfl, fun j _ => by simp [Xd.off, Xd.at]⟩
  | cons s p => simp [Xd.okp] at h
 | .sl c, p, x, h => by cases p with
  | nil => exact ⟨x, rfl, fun j _ => by simp [Xd.off, Xd.at]⟩
  | cons s p => simp [Xd.okp] at h
 | .mp _ _, p, x, h => by cases p with
  | nil => exact ⟨x, rfl, fun j _ => by simp [Xd.off, Xd.at]⟩
  | cons s p => simp [Xd.okp] at h
 | .ifc, p, x, h => by cases p with
  | nil => exact ⟨x, rfl, fun j _ => by simp [Xd.off, Xd.at]⟩
  | cons s p => simp [Xd.okp] at h
 | .pair a b, p, x, h => by
  cases p with
  | nil => exact ⟨x, rfl, fun j _ => by simp [Xd.off, Xd.at]⟩
  | cons s p =>
   cases s with
   | fst =>
    simp only [Xd.okp] at h
    obtain ⟨y, h1, h2⟩ := Xd.rd_at a p x.1 h
    have hl := Xd.off_le a p h
    refine ⟨y, h1, fun j hj => ?_⟩
    refine Eq.trans ?_ (h2 j hj)
    simp only [Xd.at] at hj
    simp only [Xd.off, Xd.cells]
    rw [List.getElem?_append_left (by rw [Xd.length_cells]; omega)]
   | snd =>
    simp only [Xd.okp] at h
    obtain ⟨y, h1, h2⟩ := Xd.rd_at b p x.2 h
    refine ⟨y, h1, fun j hj => ?_⟩
    refine Eq.trans ?_ (h2 j hj)
    simp only [Xd.off, Xd.cells]
    rw [List.getElem?_append_right (by rw [Xd.length_cells]; omega), Xd.length_cells]
    congr 1; omega
   | idx i => simp [Xd.okp] at h
 | .vec n a, p, x, h => by
  cases p with
  | nil => exact ⟨x, rfl, fun j _ => by simp [Xd.off, Xd.at]⟩
  | cons s p =>
   cases s with
   | fst => simp [Xd.okp] at h
   | snd => simp [Xd.okp] at h
   | idx i =>
    simp only [Xd.okp] at h
    obtain ⟨y, h1, h2⟩ := Xd.rd_at a p (x i) h.2
    have hl := Xd.off_le a p h.2
    refine ⟨y, h1, fun j hj => ?_⟩
    refine Eq.trans ?_ (h2 j hj)
    simp only [Xd.at] at hj
    simp only [Xd.off, Xd.cells, Nat.add_assoc]
    exact vec_get a x n i _ h.1 (by omega)

theorem Xd.getVec_spec {a : Xd} (ih : ∀ (l : List TV) (x : a.T) (r : List TV), a.get l = some (x, r) → l.length = a.sz + r.length ∧ (∀ j : Nat, r[j]? = l[a.sz + j]?) ∧
  ∀ (j : Nat) q, (a.cells x)[j]? = some q → ∃ p, l[j]? = some p ∧ ∀ G u, TR G p u → TR G q u) :
  ∀ (n : Nat) (l : List TV) (xs : List a.T) (r : List TV), Xd.get.getVec a.get n l = some (xs, r) → xs.length = n ∧ l.length = n * a.sz + r.length ∧ (∀ j : Nat, r[j]? = l[n * a.sz + j]?) ∧
   ∀ (i : Nat) x, xs[i]? = some x → ∀ (j : Nat) q, (a.cells x)[j]? = some q → ∃ p, l[i * a.sz + j]? = some p ∧ ∀ G u, TR G p u → TR G q u
 | 0, l, xs, r, h => by
  simp only [Xd.get.getVec, Option.some.injEq, Prod.mk.injEq] at h
  obtain ⟨rfl, rfl⟩ := h
  exact ⟨rfl, by simp, fun j => by simp, fun i x hx => by simp at hx⟩
 | n + 1, l, xs, r, h => by
  simp only [Xd.get.getVec] at h
  split at h
  ·rename_i x l1 h1
   split at h
   ·rename_i ys r1 h2
    cases h
    obtain ⟨p1, p2, p3⟩ := ih l x l1 h1
    obtain ⟨q0, q1, q2, q3⟩ := Xd.getVec_spec ih n l1 ys r h2
    refine ⟨by simp [q0], by rw [p1, q1, Nat.succ_mul]; omega, fun j => by rw [q2, p2, Nat.succ_mul]; congr 1; omega, fun i y hy j q hq => ?_⟩
    cases i with
    | zero =>
     simp at hy; subst hy
     rw [Nat.zero_mul, Nat.zero_add]
     exact p3 j q hq
    | succ i =>
     obtain ⟨p, e1, e2⟩ := q3 i y (by simpa using hy) j q hq
     refine ⟨p, ?_, e2⟩
     rw [p2] at e1
     rw [← e1, Nat.succ_mul]; congr 1; omega
   ·cases h
  ·cases h

theorem Xd.get_spec : (c : Xd) → (l : List TV) → (a : c.T) → (r : List TV) → c.get l = some (a, r) →
  l.length = c.sz + r.length ∧ (∀ j : Nat, r[j]? = l[c.sz + j]?) ∧
  ∀ (j : Nat) q, (c.cells a)[j]? = some q → ∃ p, l[j]? = some p ∧ ∀ G u, TR G p u → TR G q u
 | .pure c, l, a, r, h => by
  simp only [Xd.get] at h
  split at h
  ·rename_i vs hv
   split at h
   ·rename_i b hg
    cases h
    obtain ⟨g1, g2, g3⟩ := Cd.get_spec c _ _ _ hg
    have hvs := allV_some hv
    have hlen : (l.take c.sz).length = c.sz := by rw [hvs, List.length_map]; simpa using g1
    have hle : c.sz ≤ l.length := by rw [List.length_take] at hlen; omega
    refine ⟨by simp [Xd.sz]; omega, fun j => by simp [Xd.sz], fun j q hq => ?_⟩
    simp only [Xd.cells, List.getElem?_map] at hq
    cases hc : (c.cells a)[j]? with
    | none => rw [hc] at hq; cases hq
    | some y =>
     rw [hc] at hq; cases hq
     obtain ⟨p, e1, e2⟩ := g3 j y hc
     rw [List.getElem?_map] at e1
     cases hvj : vs[j]? with
     | none => rw [hvj] at e1; cases e1
     | some z =>
      rw [hvj] at e1; cases e1
      have hj : j < c.sz := by
       have := (List.getElem?_eq_some_iff.1 hc).1
       rwa [Cd.length_cells] at this
      refine ⟨.v z, ?_, fun G u hu => ?_⟩
      ·have : (l.take c.sz)[j]? = some (.v z) := by rw [hvs, List.getElem?_map, hvj]; rfl
       rwa [List.getElem?_take, if_pos hj] at this
      ·cases hu with
       | v _ _ hu => exact .v _ _ (e2 G u hu.norm0)
   ·cases h
  ·cases h
 | .ref c, l, a, r, h => by
  simp only [Xd.get] at h
  split at h
  ·split at h
   ·rename_i hc
    cases h
    have := of_decide_eq_true hc; subst this
    refine ⟨by simp [Xd.sz]; omega, fun j => by simp [Xd.sz, Nat.add_comm 1 j], fun j q hq => ?_⟩
    match j with
    | 0 => simp [Xd.cells] at hq; subst hq; exact ⟨_, rfl, fun _ _ h => h⟩
    | j + 1 => simp [Xd.cells] at hq
   ·cases h
  ·cases h
   refine ⟨by simp [Xd.sz]; omega, fun j => by simp [Xd.sz, Nat.add_comm 1 j], fun j q hq => ?_⟩
   match j with
   | 0 =>
    simp [Xd.cells] at hq; subst hq
    refine ⟨_, rfl, fun _ _ h => ?_⟩
    cases h with
    | v _ _ h => cases h; exact .ref0 _ _ _
   | j + 1 => simp [Xd.cells] at hq
  ·cases h
 | .sl c, l, a, r, h => by
  simp only [Xd.get] at h
  split at h
  ·split at h
   ·rename_i hc
    cases h
    have := of_decide_eq_true hc; subst this
    refine ⟨by simp [Xd.sz]; omega, fun j => by simp [Xd.sz, Nat.add_comm 1 j], fun j q hq => ?_⟩
    match j with
    | 0 => simp [Xd.cells] at hq; subst hq; exact ⟨_, rfl, fun _ _ h => h⟩
    | j + 1 => simp [Xd.cells] at hq
   ·cases h
  ·cases h
   refine ⟨by simp [Xd.sz]; omega, fun j => by simp [Xd.sz, Nat.add_comm 1 j], fun j q hq => ?_⟩
   match j with
   | 0 =>
    simp [Xd.cells] at hq; subst hq
    refine ⟨_, rfl, fun _ _ h => ?_⟩
    cases h with
    | v _ _ h => cases h; exact .sl0 _ _
   | j + 1 => simp [Xd.cells] at hq
  ·cases h
 | .mp kc vc, l, a, r, h => by
  simp only [Xd.get] at h
  split at h
  ·split at h
   ·rename_i hc hc'
    cases h
    have := of_decide_eq_true hc; subst this
    have := of_decide_eq_true hc'; subst this
    refine ⟨by simp [Xd.sz]; omega, fun j => by simp [Xd.sz, Nat.add_comm 1 j], fun j q hq => ?_⟩
    match j with
    | 0 => simp [Xd.cells] at hq; subst hq; exact ⟨_, rfl, fun _ _ h => h⟩
    | j + 1 => simp [Xd.cells] at hq
   ·cases h
  ·cases h
   refine ⟨by simp [Xd.sz]; omega, fun j => by simp [Xd.sz, Nat.add_comm 1 j], fun j q hq => ?_⟩
   match j with
   | 0 =>
    simp [Xd.cells] at hq; subst hq
    refine ⟨_, rfl, fun _ _ h => ?_⟩
    cases h with
    | v _ _ h => cases h; exact .mp0 _ _
   | j + 1 => simp [Xd.cells] at hq
  ·cases h
 | .ifc, l, a, r, h => by
  simp only [Xd.get] at h
  split at h
  ·cases h
   refine ⟨by simp [Xd.sz]; omega, fun j => by simp [Xd.sz, Nat.add_comm 1 j], fun j q hq => ?_⟩
   match j with
   | 0 => simp [Xd.cells] at hq; subst hq; exact ⟨_, rfl, fun _ _ h => h⟩
   | j + 1 => simp [Xd.cells] at hq
  ·cases h
   refine ⟨by simp [Xd.sz]; omega, fun j => by simp [Xd.sz, Nat.add_comm 1 j], fun j q hq => ?_⟩
   match j with
   | 0 =>
    simp [Xd.cells] at hq; subst hq
    refine ⟨_, rfl, fun _ _ h => ?_⟩
    cases h with
    | v _ _ h => cases h; exact .ifc0
   | j + 1 => simp [Xd.cells] at hq
  ·cases h
 | .pair a b, l, x, r, h => by
  simp only [Xd.get] at h
  split at h
  ·rename_i x1 l1 h1
   split at h
   ·rename_i x2 l2 h2
    cases h
    obtain ⟨p1, p2, p3⟩ := Xd.get_spec a l x1 l1 h1
    obtain ⟨q1, q2, q3⟩ := Xd.get_spec b l1 x2 r h2
    refine ⟨by simp only [Xd.sz]; omega, fun j => by rw [q2, p2]; simp only [Xd.sz, Nat.add_assoc], fun j q hq => ?_⟩
    simp only [Xd.cells, List.getElem?_append, Xd.length_cells] at hq
    split at hq
    ·exact p3 j q hq
    ·rename_i hj
     obtain ⟨p, e1, e2⟩ := q3 _ q hq
     refine ⟨p, ?_, e2⟩
     rw [p2] at e1
     rw [show j = a.sz + (j - a.sz) by omega]; exact e1
   ·cases h
  ·cases h
 | .vec n a, l, x, r, h => by
  simp only [Xd.get] at h
  split at h
  ·rename_i xs r1 h1
   cases h
   obtain ⟨q0, q1, q2, q3⟩ := Xd.getVec_spec (Xd.get_spec a) n l xs r h1
   refine ⟨q1, q2, fun j q hq => ?_⟩
   have hj : j < n * a.sz := by
    have := (List.getElem?_eq_some_iff.1 hq).1
    rwa [Xd.length_cells] at this
   have hpos : 0 < a.sz := by
    rcases Nat.eq_zero_or_pos a.sz with e | e
    ·rw [e] at hj; omega
    ·exact e
   have hi : j / a.sz < n := (Nat.div_lt_iff_lt_mul hpos).2 hj
   have hjj : j = j / a.sz * a.sz + j % a.sz := by rw [Nat.mul_comm]; exact (Nat.div_add_mod j a.sz).symm
   rw [hjj] at hq ⊢
   simp only [Xd.cells] at hq
   rw [vec_get a (fun i => xs.getD i a.dflt) n _ _ hi (Nat.mod_lt _ hpos)] at hq
   refine q3 _ _ ?_ _ q hq
   simp [List.getD, List.getElem?_eq_getElem (show j / a.sz < xs.length by omega)]
  ·cases h

theorem Xd.dec_spec {c : Xd} {x : TV} {a : c.T} (h : c.dec x = some a) : x.cells.length = c.sz ∧
  ∀ (j : Nat) q, (c.cells a)[j]? = some q → ∃ p, x.cells[j]? = some p ∧ ∀ G u, TR G p u → TR G q u := by
 unfold Xd.dec at h
 split at h
 ·rename_i b hg
  cases h
  obtain ⟨g1, g2, g3⟩ := Xd.get_spec c _ _ _ hg
  exact ⟨by simpa using g1, g3⟩
 ·cases h

theorem Xd.wr_spec : ∀ (c : Xd) (p : List Stp1) (x : c.T) (v : TV) (x' : c.T), c.okp p → c.wr p x v = some x' →
  v.cells.length = (c.at p).sz ∧ ∀ (j : Nat) q, (c.cells x')[j]? = some q →
   (c.off p ≤ j ∧ j < c.off p + (c.at p).sz ∧ ∃ z, v.cells[j - c.off p]? = some z ∧ ∀ G u, TR G z u → TR G q u) ∨
   ((j < c.off p ∨ c.off p + (c.at p).sz ≤ j) ∧ (c.cells x)[j]? = some q) := by
 have base : ∀ (c : Xd) (v : TV) (x' : c.T), c.dec v = some x' → v.cells.length = c.sz ∧ ∀ (j : Nat) q, (c.cells x')[j]? = some q →
   (0 ≤ j ∧ j < 0 + c.sz ∧ ∃ z, v.cells[j - 0]? = some z ∧ ∀ G u, TR G z u → TR G q u) := by
  intro c v x' h
  obtain ⟨h1, h2⟩ := Xd.dec_spec h
  refine ⟨h1, fun j q hq => ?_⟩
  have hj := (List.getElem?_eq_some_iff.1 hq).1
  rw [Xd.length_cells] at hj
  exact ⟨Nat.zero_le _, by omega, by simpa using h2 j q hq⟩
 intro c
 induction c with
 | pure c =>
  intro p x v x' hp h
  cases p with
  | nil => obtain ⟨h1, h2⟩ := base (.pure c) v x' h; exact ⟨h1, fun j q hq => .inl (h2 j q hq)⟩
  | cons s p => simp [Xd.okp] at hp
 | ref c _ =>
  intro p x v x' hp h
  cases p with
  | nil => obtain ⟨h1, h2⟩ := base (.ref c) v x' h; exact ⟨h1, fun j q hq => .inl (h2 j q hq)⟩
  | cons s p => simp [Xd.okp] at hp
 | sl c _ =>
  intro p x v x' hp h
  cases p with
  | nil => obtain ⟨h1, h2⟩ := base (.sl c) v x' h; exact ⟨h1, fun j q hq => .inl (h2 j q hq)⟩
  | cons s p => simp [Xd.okp] at hp
 | mp kc vc _ =>
  intro p x v x' hp h
  cases p with
  | nil => obtain ⟨h1, h2⟩ := base (.mp kc vc) v x' h; exact ⟨h1, fun j q hq => .inl (h2 j q hq)⟩
  | cons s p => simp [Xd.okp] at hp
 | ifc =>
  intro p x v x' hp h
  cases p with
  | nil => obtain ⟨h1, h2⟩ := base .ifc v x' h; exact ⟨h1, fun j q hq => .inl (h2 j q hq)⟩
  | cons s p => simp [Xd.okp] at hp
 | pair a b iha ihb =>
  intro p x v x' hp h
  cases p with
  | nil => obtain ⟨h1, h2⟩ := base (.pair a b) v x' h; exact ⟨h1, fun j q hq => .inl (h2 j q hq)⟩
  | cons s p =>
   cases s with
   | fst =>
    simp only [Xd.okp] at hp
    simp only [Xd.wr] at h
    split at h
    ·rename_i y hy
     cases h
     obtain ⟨h1, h2⟩ := iha p x.1 v y hp hy
     have hl := Xd.off_le a p hp
     refine ⟨h1, fun j q hq => ?_⟩
     simp only [Xd.cells, List.getElem?_append, Xd.length_cells] at hq ⊢
     simp only [Xd.off, Xd.at]
     split at hq
     ·rename_i hj
      rcases h2 j q hq with k | ⟨k1, k2⟩
      ·exact .inl k
      ·exact .inr ⟨k1, by rw [if_pos hj]; exact k2⟩
     ·rename_i hj
      exact .inr ⟨.inr (by omega), by rw [if_neg hj]; exact hq⟩
    ·cases h
   | snd =>
    simp only [Xd.okp] at hp
    simp only [Xd.wr] at h
    split at h
    ·rename_i y hy
     cases h
     obtain ⟨h1, h2⟩ := ihb p x.2 v y hp hy
     refine ⟨h1, fun j q hq => ?_⟩
     simp only [Xd.cells, List.getElem?_append, Xd.length_cells] at hq ⊢
     simp only [Xd.off, Xd.at]
     split at hq
     ·rename_i hj
      exact .inr ⟨.inl (by omega), by rw [if_pos hj]; exact hq⟩
     ·rename_i hj
      rcases h2 _ q hq with ⟨k1, k2, z, k3, k4⟩ | ⟨k1, k2⟩
      ·exact .inl ⟨by omega, by omega, z, by rw [← k3]; congr 1; omega, k4⟩
      ·exact .inr ⟨by omega, by rw [if_neg hj]; exact k2⟩
    ·cases h
   | idx i => simp [Xd.okp] at hp
 | vec n a iha =>
  intro p x v x' hp h
  cases p with
  | nil => obtain ⟨h1, h2⟩ := base (.vec n a) v x' h; exact ⟨h1, fun j q hq => .inl (h2 j q hq)⟩
  | cons s p =>
   cases s with
   | fst => simp [Xd.okp] at hp
   | snd => simp [Xd.okp] at hp
   | idx i =>
    simp only [Xd.okp] at hp
    simp only [Xd.wr] at h
    split at h
    ·rename_i y hy
     cases h
     obtain ⟨h1, h2⟩ := iha p (x i) v y hp.2 hy
     have hl := Xd.off_le a p hp.2
     refine ⟨h1, fun j q hq => ?_⟩
     have hj : j < n * a.sz := by
      have := (List.getElem?_eq_some_iff.1 hq).1
      rwa [Xd.length_cells] at this
     have hpos : 0 < a.sz := by
      rcases Nat.eq_zero_or_pos a.sz with e | e
      ·rw [e] at hj; omega
      ·exact e
     have hk : j / a.sz < n := (Nat.div_lt_iff_lt_mul hpos).2 hj
     have hm := Nat.mod_lt j hpos
     have hjj : j = j / a.sz * a.sz + j % a.sz := by rw [Nat.mul_comm]; exact (Nat.div_add_mod j a.sz).symm
     generalize j / a.sz = k at hk hjj
     generalize j % a.sz = m at hm hjj
     subst hjj
     simp only [Xd.cells] at hq ⊢
     rw [vec_get a (fun j => if j = i then y else x j) n k m hk hm] at hq
     rw [vec_get a x n k m hk hm]
     simp only [Xd.off, Xd.at]
     by_cases e : k = i
     ·subst e
      rw [if_pos rfl] at hq
      rcases h2 m q hq with ⟨k1, k2, z, k3, k4⟩ | ⟨k1, k2⟩
      ·exact .inl ⟨by omega, by omega, z, by rw [← k3]; congr 1; omega, k4⟩
      ·exact .inr ⟨by omega, k2⟩
     ·rw [if_neg e] at hq
      refine .inr ⟨?_, hq⟩
      rcases Nat.lt_or_gt_of_ne e with c | c
      ·have := Nat.mul_le_mul_right a.sz (show k + 1 ≤ i from c)
       rw [Nat.succ_mul] at this
       exact .inl (by omega)
      ·have := Nat.mul_le_mul_right a.sz (show i + 1 ≤ k from c)
       rw [Nat.succ_mul] at this
       exact .inr (by omega)
    ·cases h

theorem Xd.okB_ok : ∀ (c : Xd) (p : List Stp1), c.okB p = true → c.okp p
 | c, [], h => by cases c <;> trivial
 | .pair a _, .fst :: p, h => by simp only [Xd.okB] at h; simp only [Xd.okp]; exact Xd.okB_ok a p h
 | .pair _ b, .snd :: p, h => by simp only [Xd.okB] at h; simp only [Xd.okp]; exact Xd.okB_ok b p h
 | .pair _ _, .idx _ :: _, h => by simp [Xd.okB] at h
 | .pure _, _ :: _, h => by simp [Xd.okB] at h
 | .ref _, _ :: _, h => by simp [Xd.okB] at h
 | .sl _, _ :: _, h => by simp [Xd.okB] at h
 | .mp _ _, _ :: _, h => by simp [Xd.okB] at h
 | .ifc, _ :: _, h => by simp [Xd.okB] at h
 | .vec _ _, _ :: _, h => by simp [Xd.okB] at h

theorem Xd.path_append : ∀ (c : Xd) (p q : List Stp1), c.okp p → (c.at (p ++ q) = (c.at p).at q) ∧ (c.off (p ++ q) = c.off p + (c.at p).off q) ∧ (c.okp (p ++ q) ↔ (c.at p).okp q)
 | c, [], q, _ => by
  have h1 : c.at [] = c := by cases c <;> rfl
  have h2 : c.off [] = 0 := by cases c <;> rfl
  rw [h1, h2]; simp
 | .pair a b, .fst :: p, q, h => by
  simp only [Xd.okp] at h
  obtain ⟨h1, h2, h3⟩ := Xd.path_append a p q h
  simp only [List.cons_append, Xd.at, Xd.off, Xd.okp]
  exact ⟨h1, h2, h3⟩
 | .pair a b, .snd :: p, q, h => by
  simp only [Xd.okp] at h
  obtain ⟨h1, h2, h3⟩ := Xd.path_append b p q h
  simp only [List.cons_append, Xd.at, Xd.off, Xd.okp]
  exact ⟨h1, by rw [h2]; omega, h3⟩
 | .vec n a, .idx i :: p, q, h => by
  simp only [Xd.okp] at h
  obtain ⟨h1, h2, h3⟩ := Xd.path_append a p q h.2
  simp only [List.cons_append, Xd.at, Xd.off, Xd.okp]
  exact ⟨h1, by rw [h2]; omega, by rw [h3]; simp [h.1]⟩
 | .pair _ _, .idx _ :: _, _, h => by simp [Xd.okp] at h
 | .vec _ _, .fst :: _, _, h => by simp [Xd.okp] at h
 | .vec _ _, .snd :: _, _, h => by simp [Xd.okp] at h
 | .pure _, _ :: _, _, h => by simp [Xd.okp] at h
 | .ref _, _ :: _, _, h => by simp [Xd.okp] at h
 | .sl _, _ :: _, _, h => by simp [Xd.okp] at h
 | .mp _ _, _ :: _, _, h => by simp [Xd.okp] at h
 | .ifc, _ :: _, _, h => by simp [Xd.okp] at h

end Go.Proofs.YtdcljlafookliaaDoor.AB

namespace Go.Proofs.YtdcljlafookliaaDoor.AB
open Go

section
variable {P : Program} {tt : TT} {Mine : Mn} {G : Gh} {hp : Hp} {T : Toks} {w w' : World} {X : XH}

theorem hpX_get (h : hpX hp = some X) : hp[0]? = some (some (.heap X)) := by
 unfold hpX at h
 split at h
 ·cases h; rfl
 ·cases h

theorem Inv.xor (hi : Inv Mine G hp T w) (h0 : hp[0]? = some (some (.heap X))) : OR Mine G w 0 (.heap X) := hi.objs 0 _ h0

theorem at_get {h : Nat} {o : XO} (hl : X.at h = some o) : X.f h = some o ∧ h < X.n := by
 unfold XH.at at hl
 split at hl
 ·rename_i e; rw [Nat.blt_eq] at e; exact ⟨hl, e⟩
 ·cases hl

theorem at_of {h : Nat} {o : Option XO} (hl : X.f h = o) (hn : h < X.n) : X.at h = o := by
 have : Nat.blt h X.n = true := by rw [Nat.blt_eq]; exact hn
 unfold XH.at; rw [this]; exact hl

theorem arr_at {c : Xd} {h : Nat} {l : List c.T} : X.arr c h = some l ↔ X.at h = some (.arr c l) := by
 unfold XH.arr
 constructor
 ·intro hl
  split at hl
  ·rename_i c' l' hf
   split at hl
   ·rename_i e; subst e; cases hl; exact hf
   ·cases hl
  ·cases hl
 ·intro hl; rw [hl]; simp

theorem mp_at {kc : Cd} {vc : Xd} {h : Nat} {es} : X.mp kc vc h = some es ↔ X.at h = some (.map kc vc es) := by
 unfold XH.mp
 constructor
 ·intro hl
  split at hl
  ·rename_i c' l' es' hf
   split at hl
   ·rename_i e; subst e
    split at hl
    ·rename_i e; subst e; cases hl; exact hf
    ·cases hl
   ·cases hl
  ·cases hl
 ·intro hl; rw [hl]; simp

theorem arr_get {c : Xd} {h : Nat} {l : List c.T} (hl : X.arr c h = some l) : X.f h = some (.arr c l) := (at_get (arr_at.1 hl)).1

theorem mp_get {kc : Cd} {vc : Xd} {h : Nat} {es} (hl : X.mp kc vc h = some es) : X.f h = some (.map kc vc es) := (at_get (mp_at.1 hl)).1

theorem Inv.xarr (hi : Inv Mine G hp T w) (h0 : hp[0]? = some (some (.heap X))) {c : Xd} {h : Nat} {l : List c.T} (hl : X.arr c h = some l) : XR Mine G w h (.arr c l) :=
 (hi.xor h0).2.2.1 h _ (arr_get hl)

theorem Inv.xmp (hi : Inv Mine G hp T w) (h0 : hp[0]? = some (some (.heap X))) {kc : Cd} {vc : Xd} {h : Nat} {es} (hl : X.mp kc vc h = some es) : XR Mine G w h (.map kc vc es) :=
 (hi.xor h0).2.2.1 h _ (mp_get hl)

theorem Inv.xset (hi : Inv Mine G hp T w) (h0 : hp[0]? = some (some (.heap X))) (h : Nat) (o o' : XO) (ho : X.f h = some o) (b sz ct : Nat)
  (hb : G.loc 0 h = some (some b, sz, ct)) (hs : Stp Mine w w') (hw : ∀ k, k ≠ b → w'.heap[k]? = w.heap[k]?) (hx : XR Mine G w' h o') :
  Inv Mine G (hp.set 0 (some (.heap (X.set h o')))) T w' := by
 obtain ⟨-, h1, h2, h3⟩ := hi.xor h0
 have hn : ∀ g, (X.set h o').f g ≠ none → X.f g ≠ none := by
  intro g hg
  simp only [XH.set] at hg
  split at hg
  ·rename_i e; subst e; rw [ho]; simp
  ·exact hg
 refine hi.setObj 0 (.heap X) (.heap (X.set h o')) h0 rfl hn b ⟨h, sz, ct, by simp [O.has, ho], hb⟩ hs hw ⟨rfl, fun k hk => ⟨?_, (h1 k hk).2⟩, fun k p hp => ?_, fun k k' b sz ct sz' ct' hne n1 n2 => h3 k k' b sz ct sz' ct' hne (hn _ n1) (hn _ n2)⟩
 ·simp only [XH.set]
  rw [if_neg (fun e => by subst e; rw [(h1 k hk).1] at ho; cases ho)]
  exact (h1 k hk).1
 ·simp only [XH.set] at hp
  split at hp
  ·rename_i e; subst e; cases hp; exact hx
  ·rename_i e
   refine (h2 k p hp).keep hi.lb (.refl _) (.refl _ _) fun b' s c hb' => ⟨hw b' fun e' => ?_, id⟩
   subst e'
   exact h3 k h b' s c sz ct e (by rw [hp]; simp) (by rw [ho]; simp) hb' hb

theorem Inv.xadd (h : Inv Mine G hp T w) (h0 : hp[0]? = some (some (.heap X))) (ob : Obj) (o : XO) (sz ct : Nat)
  (ho : XR Mine (G.setLoc 0 X.n (some w.heap.size, sz, ct)) (w.alloc ob) X.n o) :
  Inv Mine (G.setLoc 0 X.n (some w.heap.size, sz, ct)) (hp.set 0 (some (.heap (X.add o)))) T (w.alloc ob) ∧ Fz G (G.setLoc 0 X.n (some w.heap.size, sz, ct)) ∧
   Lc hp.length G (G.setLoc 0 X.n (some w.heap.size, sz, ct)) ∧ Stp Mine w (w.alloc ob) := by
 obtain ⟨-, h1, h2, h3⟩ := h.xor h0
 have h0l : 0 < hp.length := (List.getElem?_eq_some_iff.1 h0).1
 have hnone : G.loc 0 X.n = none := (h1 X.n (Nat.le_refl _)).2
 have hf : Fz G (G.setLoc 0 X.n (some w.heap.size, sz, ct)) := ⟨fun _ _ _ y => y, fun _ _ y => y, fun _ _ y => y, fun _ _ _ _ _ y => y⟩
 have hl : Lc hp.length G (G.setLoc 0 X.n (some w.heap.size, sz, ct)) := by
  intro j hj g y hy
  simp only [Gh.setLoc]
  rw [if_neg (fun e => by obtain ⟨rfl, rfl⟩ := e; rw [hnone] at hy; cases hy)]; exact hy
 have hlo : ∀ j g, j ≠ 0 → (G.setLoc 0 X.n (some w.heap.size, sz, ct)).loc j g = G.loc j g := by
  intro j g hj; simp only [Gh.setLoc]; rw [if_neg (fun e => hj e.1)]
 have hlg : ∀ g, g ≠ X.n → (G.setLoc 0 X.n (some w.heap.size, sz, ct)).loc 0 g = G.loc 0 g := by
  intro g hg; simp only [Gh.setLoc]; rw [if_neg (fun e => hg e.2)]
 have hln : (G.setLoc 0 X.n (some w.heap.size, sz, ct)).loc 0 X.n = some (some w.heap.size, sz, ct) := by simp [Gh.setLoc]
 have hnew : ∀ j p, (hp.set 0 (some (.heap (X.add o))))[j]? = some (some p) → (j ≠ 0 ∧ hp[j]? = some (some p)) ∨ (j = 0 ∧ p = .heap (X.add o)) := by
  intro j p hj
  rw [List.getElem?_set] at hj
  split at hj
  ·rename_i e
   first
    | (rw [if_pos (by omega)] at hj; cases hj; exact .inr ⟨e.symm, rfl⟩)
    | (cases hj; exact .inr ⟨e.symm, rfl⟩)
  ·rename_i e
   exact .inl ⟨fun e' => e e'.symm, hj⟩
 have hoth : ∀ j p b, j ≠ 0 → Owns (G.setLoc 0 X.n (some w.heap.size, sz, ct)) j p b → Owns G j p b := by
  rintro j p b hj ⟨g, s, c, k1, k2⟩
  exact ⟨g, s, c, k1, by rw [hlo _ _ hj] at k2; exact k2⟩
 have hown : ∀ b, Owns (G.setLoc 0 X.n (some w.heap.size, sz, ct)) 0 (.heap (X.add o)) b → b = w.heap.size ∨ Owns G 0 (.heap X) b := by
  rintro b ⟨g, s, c, k1, k2⟩
  by_cases e : g = X.n
  ·subst e; rw [hln] at k2; cases k2; exact .inl rfl
  ·rw [hlg g e] at k2
   refine .inr ⟨g, s, c, ?_, k2⟩
   simpa [O.has, XH.add, e] using k1
 have hXb : ∀ k p, X.f k = some p → k ≠ X.n := by
  intro k p hk e; subst e; rw [(h1 X.n (Nat.le_refl _)).1] at hk; cases hk
 refine ⟨⟨?_, ?_, ?_, ?_, ?_, ?_, h.tinj, ?_, ?_, h.tfin, ?_, h.old⟩, hf, hl, ?_⟩
 ·intro b o' v hc
  rw [cell_of_heap (w := w) (by exact heap_alloc_lt w ob (h.cell_lt hc))]
  exact h.cells b o' v hc
 ·intro r es hr
  rw [heap_alloc_lt w ob (h.mp_lt hr)]
  exact h.mps r es hr
 ·intro j p hj
  rcases hnew j p hj with ⟨k1, k2⟩ | ⟨rfl, rfl⟩
  ·exact (h.objs j p k2).keep h.lb hf hl (fun b hb => ⟨heap_alloc_lt w ob ((h.objs j p k2).blk hb).2.2, id⟩) (fun _ _ g _ => hlo j g k1)
  ·refine ⟨rfl, fun k hk => ⟨?_, ?_⟩, fun k p hk => ?_, fun k k' b s c s' c' hne n1 n2 l1 l2 => ?_⟩
   ·simp only [XH.add] at hk ⊢
    rw [if_neg (by omega)]; exact (h1 k (by omega)).1
   ·simp only [XH.add] at hk
    rw [hlg k (by omega)]; exact (h1 k (by omega)).2
   ·simp only [XH.add] at hk
    split at hk
    ·rename_i e; subst e; cases hk; exact ho
    ·exact (h2 k p hk).keep h.lb hf hl fun b s c hb => ⟨heap_alloc_lt w ob ((h2 k p hk).blk hb).2.2, id⟩
   ·have small : ∀ k b s c, k ≠ X.n → (X.add o).f k ≠ none → (G.setLoc 0 X.n (some w.heap.size, sz, ct)).loc 0 k = some (some b, s, c) → b < w.heap.size := by
     intro k b s c e n1 l1
     rw [hlg k e] at l1
     simp only [XH.add, if_neg e] at n1
     cases hk : X.f k with
     | none => exact absurd hk n1
     | some p => exact ((h2 k p hk).blk l1).2.2
    by_cases e : k = X.n
    ·have e' : k' ≠ X.n := fun q => hne (e.trans q.symm)
     subst e
     have := small k' b s' c' e' n2 l2
     rw [hln] at l1; cases l1; omega
    ·by_cases e' : k' = X.n
     ·subst e'
      have := small k b s c e n1 l1
      rw [hln] at l2; cases l2; omega
     ·rw [hlg k e] at l1; rw [hlg k' e'] at l2
      simp only [XH.add, if_neg e] at n1
      simp only [XH.add, if_neg e'] at n2
      exact h3 k k' b s c s' c' hne n1 n2 l1 l2
 ·intro i j oi oj b hij hi hj li lj
  have main : ∀ j p, j ≠ 0 → hp[j]? = some (some p) → ∀ b, Owns G j p b → Owns (G.setLoc 0 X.n (some w.heap.size, sz, ct)) 0 (.heap (X.add o)) b → False := by
   intro j p hj hjp b l1 l2
   rcases hown b l2 with e | l2
   ·have := ((h.objs j p hjp).blk l1).2.2; omega
   ·exact h.inj j 0 p _ b hj hjp h0 l1 l2
  rcases hnew i oi hi with ⟨k1, k2⟩ | ⟨e1, e2⟩
  ·rcases hnew j oj hj with ⟨q1, q2⟩ | ⟨e3, e4⟩
   ·exact h.inj i j oi oj b hij k2 q2 (hoth _ _ _ k1 li) (hoth _ _ _ q1 lj)
   ·subst e3 e4; exact main i oi k1 k2 b (hoth _ _ _ k1 li) lj
  ·subst e1 e2
   rcases hnew j oj hj with ⟨q1, q2⟩ | ⟨e3, e4⟩
   ·exact main j oj q1 q2 b (hoth _ _ _ q1 lj) li
   ·exact hij e3.symm
 ·intro t ht
  obtain ⟨bo, e, c, k1, k2⟩ := h.toks t ht
  refine ⟨bo, e, c, k1, fun b hb => ?_⟩
  obtain ⟨q1, ⟨cur, el, q2, q3⟩, q4⟩ := k2 b hb
  exact ⟨q1, ⟨cur, el, by rw [heap_alloc_lt w ob (heap_lt q2)]; exact q2, q3⟩, q4⟩
 ·intro t ht i p b e c k1 hi' hl'
  rcases hnew i p hi' with ⟨q1, q2⟩ | ⟨e1, e2⟩
  ·exact h.tobj t ht i p b e c k1 q2 (hoth _ _ _ q1 hl')
  ·subst e1 e2
   rcases hown b hl' with e' | hl'
   ·obtain ⟨bo, e3, c3, q1, q2⟩ := h.toks t ht
    rw [show (G.setLoc _ _ _).tok t = G.tok t from rfl] at k1
    rw [k1] at q1; cases q1
    obtain ⟨_, ⟨cur, el, q3, _⟩, _⟩ := q2 b rfl
    have := heap_lt q3
    omega
   ·exact h.tobj t ht 0 _ b e c k1 h0 hl'
 ·intro i g hig
  simp only [List.length_set] at hig
  rw [hlo i g (by omega)]; exact h.lb i g hig
 ·intro i p g hi' hg
  rcases hnew i p hi' with ⟨q1, q2⟩ | ⟨e1, e2⟩
  ·rw [hlo i g q1]; exact h.gens i p g q2 hg
  ·subst e1 e2
   simp only [O.gen, XH.add] at hg
   rw [hlg g (by omega)]; exact (h1 g (by omega)).2
 ·intro b hb
  simp only [World.size_alloc] at hb
  exact h.mine b (by omega)
 ·exact ⟨rfl, rfl, rfl, by simp, fun k hk => heap_alloc_lt w ob (by rcases Nat.lt_or_ge k w.heap.size with q | q; exact q; exact absurd (h.mine k q) hk)⟩

end
end Go.Proofs.YtdcljlafookliaaDoor.AB

namespace Go.Proofs.YtdcljlafookliaaDoor.AB
open Go

section
variable {P : Program} {tt : TT} {Mine : Mn} {G : Gh} {s : St} {a : Act} {w : World}

theorem fitX_spec {t : Nat} {c : Xd} (h : fitX tt t c = true) : (tt.at t).ok = true ∧ c.sz = (tt.at t).size ∧ c.isAgg = (tt.at t).k.isAgg := by
 simp only [fitX, Bool.and_eq_true, beq_iff_eq] at h
 exact ⟨h.1.1, Nat.eq_of_beq_eq_true h.1.2, h.2⟩

theorem el_get {X : XH} {c : Xd} {h e : Nat} {a : c.T} (hl : X.el c h e = some a) : ∃ l, X.arr c h = some l ∧ l[e]? = some a := by
 unfold XH.el at hl
 split at hl
 ·rename_i l hl'; exact ⟨l, hl', hl⟩
 ·cases hl

theorem slT_ok (htt : TTOK P tt) {t e : Nat} (h : slT tt t = some e) : P.underlying t = some (.slice e) ∧ (tt.at t).ok = true ∧ (tt.at t).k = .slice e := by
 unfold slT at h
 split at h
 ·rename_i e' h1 h2
  cases h
  obtain ⟨d, hd, hk⟩ := (htt t h1).und
  rw [h2] at hk
  simp only [KOK] at hk
  subst hk
  exact ⟨hd, h1, h2⟩
 ·cases h

theorem XR.cell {c : Xd} {l : List c.T} {e : Nat} {x : c.T} (hx : l[e]? = some x) {b : Nat} {cur : Array Value} {el : TypeId}
  (hb : w.heap[b]? = some (.cells cur el (0, 0)))
  (h6 : ∀ (e : Nat) x, l[e]? = some x → ∀ (j : Nat) y, (c.cells x)[j]? = some y → ∃ u, cur[e * c.sz + j]? = some u ∧ TR G y u ∧ u.oneCell' = true) :
  ∀ (j : Nat) y, (c.cells x)[j]? = some y → w.cell? ⟨b, e * c.sz + j, none⟩ = some (cur.getD (e * c.sz + j) Go.undef) ∧ (cur.getD (e * c.sz + j) Go.undef).oneCell' = true ∧
   TR G y (cur.getD (e * c.sz + j) Go.undef) := by
 intro j y hy
 obtain ⟨u, h1, h2, h3⟩ := h6 e x hx j y hy
 have : cur.getD (e * c.sz + j) Go.undef = u := by rw [Array.getD_eq_getD_getElem?, h1]; rfl
 rw [this, cell_of_block hb]
 exact ⟨h1, h3, h2⟩

theorem rd_sub {c : Xd} {p : List Stp1} {x : c.T} (hp : c.okp p) {n : Nat} {ag : Bool} (hn : (c.at p).sz = n) (ha : (c.at p).isAgg = ag) :
  subTV ag n (c.off p) (.agg (c.cells x)) = some (c.rd p x) := by
 obtain ⟨y, h1, h2⟩ := Xd.rd_at c p x hp
 have hl := Xd.off_le c p hp
 have hlen := Xd.length_cells c x
 have hly := Xd.length_cells (c.at p) y
 have heq : ((c.cells x).drop (c.off p)).take n = (c.at p).cells y := by
  apply List.ext_getElem?
  intro j
  rw [List.getElem?_take, List.getElem?_drop]
  split
  ·rename_i hj; exact h2 j (by omega)
  ·rw [List.getElem?_eq_none (by omega)]
 unfold subTV
 have hble : Nat.ble (c.off p + n) (TV.agg (c.cells x)).cells.length = true := by
  simp only [TV.cells, Nat.ble_eq]; omega
 rw [hble]
 subst ha
 cases hag : (c.at p).isAgg with
 | true =>
  simp only [TV.cells, heq, h1, Xd.enc_agg hag]
 | false =>
  have hf := Xd.enc_flat hag y
  have h1n : n = 1 := by rw [← hn, ← hly, hf]; rfl
  subst h1n
  simp only [TV.cells, h1]
  have := h2 0 (by omega)
  rw [Nat.add_zero, hf] at this
  simp only [List.getElem?_cons_zero] at this
  rw [List.getD_eq_getElem?_getD, this]; rfl

theorem xload_sound (htt : TTOK P tt) {t : Nat} {p : TV} {q : Value} {K : TV → St → Prop} (h : xload tt t p s K) (hi : Inv Mine G s.hp s.T w) (hp : TR G p q) :
  Res Mine G s w ((Instr.loadAt t q).run P w) K := by
 unfold xload at h
 split at h
 case h_2 => exact h.elim
 rename_i hh c e p X hX
 split at h
 case h_2 => exact h.elim
 rename_i hfit
 obtain ⟨hok, hsz, hag⟩ := fitX_spec hfit
 obtain ⟨x, hel, hk⟩ := h
 obtain ⟨l, hl, hx⟩ := el_get hel
 obtain ⟨b', h1, h2, h3, cur, el, h4, h5, h6⟩ := hi.xarr (hpX_get hX) hl
 cases hp with
 | ref _ _ _ _ b ct hloc hpp =>
  rw [hloc] at h1; cases h1
  have hc := XR.cell (G := G) hx h4 h6
  obtain ⟨v, k1, k2⟩ := sub_TV (w := w) (G := G) (b := b') (o := e * c.sz) (f := c.off p) htt hok (fun j => cur.getD (e * c.sz + j) Go.undef) (rd_sub (x := x) hpp hsz hag) (fun j z hz => hc j z hz)
  exact Res.same hi k1 hk k2

theorem Res.name {x : TV} {X : XH} {K : TV → St → Prop} (h : nameX s X x K) : K x (setX s X) := h X rfl

theorem Res.xset {X : XH} (hi : Inv Mine G s.hp s.T w) (hX : hpX s.hp = some X) {h : Nat} {o o' : XO} (ho : X.f h = some o) {b sz ct : Nat} (hb : G.loc 0 h = some (some b, sz, ct))
  {w' : World} {r : Result Value} {x : TV} {y : Value} (hr : r = .ok y w') (hs : Stp Mine w w') (hw : ∀ k, k ≠ b → w'.heap[k]? = w.heap[k]?) (hx : XR Mine G w' h o') (hxy : TR G x y)
  {K : TV → St → Prop} (hk : K x (setX s (X.set h o'))) : Res Mine G s w r K := by
 refine ⟨y, w', G, x, setX s (X.set h o'), hr, hk, hxy, rfl, ?_, .refl _, .refl _ _, by simp [setX, St.setO], hs⟩
 exact hi.xset (hpX_get hX) h o o' ho b sz ct hb hs hw hx

theorem Res.xadd {X : XH} (hi : Inv Mine G s.hp s.T w) (hX : hpX s.hp = some X) {ob : Obj} {o : XO} {sz ct : Nat} {r : Result Value} {x : TV} {y : Value} {w0 : World} (hw0 : w0.heap = w.heap)
  (hr : r = .ok y (w0.alloc ob)) (hst : Stp Mine w w0)
  (ho : ∀ G', Fz G G' → Lc s.hp.length G G' → G'.loc 0 X.n = some (some w.heap.size, sz, ct) → (∀ b, G.priv b → G'.priv b) → Mine w.heap.size → G'.priv w.heap.size →
   (w0.alloc ob).heap[w.heap.size]? = some ob → XR Mine G' (w0.alloc ob) X.n o)
  (hxy : ∀ G', Fz G G' → Lc s.hp.length G G' → G'.loc 0 X.n = some (some w.heap.size, sz, ct) → TR G' x y)
  {K : TV → St → Prop} (hk : K x (setX s (X.add o))) : Res Mine G s w r K := by
 have hi0 := hi.heap hw0
 have hsz : w0.heap.size = w.heap.size := by rw [hw0]
 have hf : Fz G (G.setLoc 0 X.n (some w.heap.size, sz, ct)) := ⟨fun _ _ _ y => y, fun _ _ y => y, fun _ _ y => y, fun _ _ _ _ _ y => y⟩
 have hln : (G.setLoc 0 X.n (some w.heap.size, sz, ct)).loc 0 X.n = some (some w.heap.size, sz, ct) := by simp [Gh.setLoc]
 have hnone : G.loc 0 X.n = none := ((hi.xor (hpX_get hX)).2.1 X.n (Nat.le_refl _)).2
 have hl : Lc s.hp.length G (G.setLoc 0 X.n (some w.heap.size, sz, ct)) := by
  intro j hj g y hy
  simp only [Gh.setLoc]
  rw [if_neg (fun e => by obtain ⟨rfl, rfl⟩ := e; rw [hnone] at hy; cases hy)]; exact hy
 have hpr := fresh_priv hi
 have hnewb : (w0.alloc ob).heap[w.heap.size]? = some ob := by rw [← hsz]; exact heap_new w0 ob
 obtain ⟨g1, g2, g3, g4⟩ := hi0.xadd (hpX_get hX) ob o sz ct (by
  rw [hsz]
  exact ho _ hf hl hln (fun b hb => ⟨hb.1, hb.2⟩) (hi.mine _ (Nat.le_refl _)) ⟨hpr.1, hpr.2⟩ hnewb)
 rw [hsz] at g1 g2 g3
 exact ⟨y, _, _, x, setX s (X.add o), hr, hk, hxy _ hf hl hln, rfl, g1, g2, g3, by simp [setX, St.setO], hst.trans g4⟩

theorem Xd.dec_rel {c : Xd} {x : TV} {a : c.T} (h : c.dec x = some a) {y : Value} (hxy : TR G x y) :
  x.cells.length = y.cells.size ∧ ∀ (j : Nat) z, x.cells[j]? = some z → ∃ u, y.cells[j]? = some u ∧ TR G z u := by
 obtain ⟨hlen, hrel⟩ := Xd.dec_spec h
 have single : x.cells = [x] → (∀ v, y ≠ .agg v) → x.cells.length = y.cells.size ∧ ∀ (j : Nat) z, x.cells[j]? = some z → ∃ u, y.cells[j]? = some u ∧ TR G z u := by
  intro h1 h2
  have hy : y.cells = #[y] := by cases y <;> first | rfl | exact absurd rfl (h2 _)
  rw [h1, hy]
  refine ⟨rfl, fun j z hz => ?_⟩
  match j with
  | 0 => simp at hz; subst hz; exact ⟨y, rfl, hxy⟩
  | j + 1 => simp at hz
 have undef : x ≠ .v .undef := by
  rintro rfl
  have hc0 : (c.cells a)[0]? = some ((c.cells a)[0]'(by rw [Xd.length_cells, ← hlen]; simp [TV.cells, V.cells])) := List.getElem?_eq_getElem _
  obtain ⟨z, k1, k2⟩ := hrel 0 _ hc0
  have hz : z = .v .undef := by simpa [TV.cells, V.cells] using k1.symm
  subst hz
  have k3 := k2 G (.tuple #[]) (TR.undef _)
  have k4 := k3.one (Xd.cells_one c a _ (List.mem_of_getElem? hc0))
  cases k4
 cases hxy with
 | v x y hv =>
  cases hv with
  | undef => exact absurd rfl undef
  | agg l vs hl hone hp =>
   refine ⟨by simp [TV.cells, V.cells, Value.cells, hl], fun j z hz => ?_⟩
   simp only [TV.cells, V.cells, List.getElem?_map] at hz
   cases hlj : l[j]? with
   | none => rw [hlj] at hz; cases hz
   | some q =>
    rw [hlj] at hz; simp at hz; subst hz
    have hj : j < vs.length := by rw [← hl]; exact (List.getElem?_eq_some_iff.1 hlj).1
    exact ⟨vs[j], by simp [Value.cells, hj], .v _ _ (hp j q _ hlj (List.getElem?_eq_getElem hj))⟩
  | _ => exact single rfl (by intro v e; cases e)
 | agg l vs hl hone hp =>
  refine ⟨by simp [TV.cells, Value.cells, hl], fun j z hz => ?_⟩
  simp only [TV.cells] at hz
  have hj : j < vs.length := by rw [← hl]; exact (List.getElem?_eq_some_iff.1 hz).1
  exact ⟨vs[j], by simp [Value.cells, hj], hp j z _ hz (List.getElem?_eq_getElem hj)⟩
 | _ => exact single rfl (by intro v e; cases e)


theorem Xd.dec_full {c : Xd} {x : TV} {a : c.T} (h : c.dec x = some a) {y : Value} (hxy : TR G x y) :
  y.cells.size = c.sz ∧ ∀ (j : Nat) q, (c.cells a)[j]? = some q → ∃ u, y.cells[j]? = some u ∧ TR G q u ∧ u.oneCell' = true := by
 obtain ⟨hlen, hrel⟩ := Xd.dec_spec h
 have fin : (x.cells.length = y.cells.size ∧ ∀ (j : Nat) z, x.cells[j]? = some z → ∃ u, y.cells[j]? = some u ∧ TR G z u) → y.cells.size = c.sz ∧
   ∀ (j : Nat) q, (c.cells a)[j]? = some q → ∃ u, y.cells[j]? = some u ∧ TR G q u ∧ u.oneCell' = true := by
  rintro ⟨h1, h2⟩
  refine ⟨by omega, fun j q hq => ?_⟩
  obtain ⟨z, k1, k2⟩ := hrel j q hq
  obtain ⟨u, k3, k4⟩ := h2 j z k1
  have := k2 G u k4
  exact ⟨u, k3, this, this.one (Xd.cells_one c a q (List.mem_of_getElem? hq))⟩
 exact fin (Xd.dec_rel h hxy)

theorem Xd.wr_full : ∀ (c : Xd) (p : List Stp1) (x : c.T) (v : TV) (x' : c.T), c.okp p → c.wr p x v = some x' → ∀ {y : Value}, TR G v y →
  y.cells.size = (c.at p).sz ∧ (∀ u ∈ y.cells.toList, u.oneCell' = true) ∧ ∀ (j : Nat) q, (c.cells x')[j]? = some q →
   (c.off p ≤ j ∧ j < c.off p + (c.at p).sz ∧ ∃ u, y.cells[j - c.off p]? = some u ∧ TR G q u ∧ u.oneCell' = true) ∨
   ((j < c.off p ∨ c.off p + (c.at p).sz ≤ j) ∧ (c.cells x)[j]? = some q) := by
 intro c p x v x' hp h y hy
 obtain ⟨h1, h2⟩ := Xd.wr_spec c p x v x' hp h
 have hsub : ∃ (d : Xd) (a : d.T), d.sz = (c.at p).sz ∧ d.dec v = some a := by
  clear h1 h2 hy
  induction c generalizing p with
  | pure c => cases p with
   | nil => exact ⟨.pure c, x', rfl, h⟩
   | cons s p => simp [Xd.okp] at hp
  | ref c _ => cases p with
   | nil => exact ⟨.ref c, x', rfl, h⟩
   | cons s p => simp [Xd.okp] at hp
  | sl c _ => cases p with
   | nil => exact ⟨.sl c, x', rfl, h⟩
   | cons s p => simp [Xd.okp] at hp
  | mp kc vc _ => cases p with
   | nil => exact ⟨.mp kc vc, x', rfl, h⟩
   | cons s p => simp [Xd.okp] at hp
  | ifc => cases p with
   | nil => exact ⟨.ifc, x', rfl, h⟩
   | cons s p => simp [Xd.okp] at hp
  | pair a b iha ihb =>
   cases p with
   | nil => exact ⟨.pair a b, x', rfl, h⟩
   | cons s p =>
    cases s with
    | fst =>
     simp only [Xd.wr] at h
     split at h
     ·rename_i z hz; exact iha p x.1 z hp hz
     ·cases h
    | snd =>
     simp only [Xd.wr] at h
     split at h
     ·rename_i z hz; exact ihb p x.2 z hp hz
     ·cases h
    | idx i => simp [Xd.okp] at hp
  | vec n a iha =>
   cases p with
   | nil => exact ⟨.vec n a, x', rfl, h⟩
   | cons s p =>
    cases s with
    | fst => simp [Xd.okp] at hp
    | snd => simp [Xd.okp] at hp
    | idx i =>
     simp only [Xd.wr] at h
     split at h
     ·rename_i z hz; exact iha p (x i) z hp.2 hz
     ·cases h
 obtain ⟨d, a, hd, hdec⟩ := hsub
 obtain ⟨k1, k2⟩ := Xd.dec_full hdec hy
 obtain ⟨m1, m2⟩ := Xd.dec_spec hdec
 have hone : ∀ u ∈ y.cells.toList, u.oneCell' = true := by
  intro u hu
  obtain ⟨j, hj⟩ := List.getElem?_of_mem hu
  have hjl : j < y.cells.size := by simpa using (List.getElem?_eq_some_iff.1 hj).1
  have hjd : j < (d.cells a).length := by rw [Xd.length_cells]; omega
  obtain ⟨u', q1, q2, q3⟩ := k2 j _ (List.getElem?_eq_getElem hjd)
  have : y.cells[j]? = some u := by simpa using hj
  rw [this] at q1; cases q1; exact q3
 refine ⟨by omega, hone, fun j q hq => ?_⟩
 rcases h2 j q hq with ⟨a1, a2, z, a3, a4⟩ | k
 ·refine .inl ⟨a1, a2, ?_⟩
  have hjd : j - c.off p < (d.cells a).length := by rw [Xd.length_cells]; omega
  obtain ⟨u, q1, q2, q3⟩ := k2 _ _ (List.getElem?_eq_getElem hjd)
  refine ⟨u, q1, ?_, q3⟩
  -- the value's own cell relates
  have hz : TR G z u := by
   obtain ⟨u', r1, r2⟩ := (Xd.dec_rel hdec hy).2 _ z a3
   rw [q1] at r1; cases r1; exact r2
  exact a4 G u hz
 ·exact .inr k

theorem xstore_sound (htt : TTOK P tt) {t : Nat} {p x : TV} {q y : Value} {K : TV → St → Prop} (h : xstore tt t p x s K) (hi : Inv Mine G s.hp s.T w) (hp : TR G p q) (hxy : TR G x y) :
  Res Mine G s w (unitR ((Instr.storeAt t q y).run P w)) K := by
 unfold xstore at h
 split at h
 case h_2 => exact h.elim
 rename_i hh c e p X hX
 split at h
 case h_2 => exact h.elim
 rename_i hfit
 obtain ⟨hok, hsz, hag⟩ := fitX_spec hfit
 obtain ⟨x0, hel, h⟩ := h
 split at h
 case h_2 => exact h.elim
 rename_i x1 hwr
 have hk := Res.name h
 obtain ⟨l, hl, hx⟩ := el_get hel
 obtain ⟨b', h1, h2, h3, cur, el, h4, h5, h6⟩ := hi.xarr (hpX_get hX) hl
 cases hp with
 | ref _ _ _ _ b ct hloc hpp =>
  have hloc' := hloc
  rw [hloc] at h1; cases h1
  obtain ⟨w1, w2, w3⟩ := Xd.wr_full c p x0 x x1 hpp hwr hxy
  have hol := Xd.off_le c p hpp
  have he : e < l.length := (List.getElem?_eq_some_iff.1 hx).1
  have hmul : ∀ e', e' < l.length → e' * c.sz + c.sz ≤ cur.size := by
   intro e' he'
   rw [h5, ← Nat.succ_mul]; exact Nat.mul_le_mul_right _ (by omega)
  have hsz1 := hmul e he
  have hr := run_storeAt (w := w) (b := b') (o := e * c.sz + c.off p) htt hok h4 (by omega) (by omega) w2
  have hyl : y.cells.toList.length = (tt.at t).size := by simp; omega
  have hset : X.setEl c hh e x1 = X.set hh (.arr c (l.set e x1)) := by simp only [XH.setEl, hl]
  rw [hset] at hk
  have hr' : unitR ((Instr.storeAt t (.pointer (some ⟨b', e * c.sz + c.off p, none⟩)) y).run P w) =
    .ok Go.undef (w.setRow b' (cur.toList.take (e * c.sz + c.off p) ++ y.cells.toList ++ cur.toList.drop (e * c.sz + c.off p + (tt.at t).size)).toArray) := by
   rw [hr]; rfl
  refine Res.xset hi hX (arr_get hl) hloc hr' (Stp.setRow h2) (fun k hk => setRow_other w b' k _ hk) ?_ (TR.undef _) hk
  refine ⟨b', by simpa using hloc, h2, h3, _, el, setRow_heap w b' cur _ el _ h4, ?_, ?_⟩
  ·rw [List.size_toArray]
   simp only [List.length_append, List.length_take, List.length_drop, Array.length_toList, hyl, List.length_set]
   omega
  ·intro e' x' hx' j q hq
   have hj : j < c.sz := by
    have := (List.getElem?_eq_some_iff.1 hq).1
    rwa [Xd.length_cells] at this
   have m1 : min (e * c.sz + c.off p) cur.size = e * c.sz + c.off p := by omega
   by_cases hee : e = e'
   ·subst hee
    simp only [List.getElem?_set, he, if_true] at hx'
    cases hx'
    rcases w3 j q hq with ⟨a1, a2, u, a3, a4, a5⟩ | ⟨a1, a2⟩
    ·refine ⟨u, ?_, a4, a5⟩
     have a3' : y.cells.toList[j - c.off p]? = some u := by simpa using a3
     simp only [List.getElem?_toArray, List.append_assoc, List.getElem?_append, List.length_take, Array.length_toList, m1, hyl]
     rw [if_neg (by omega), if_pos (by omega), ← a3']
     congr 1; omega
    ·obtain ⟨u, q1, q2, q3⟩ := h6 e x0 hx j q a2
     refine ⟨u, ?_, q2, q3⟩
     rw [← q1]
     simp only [List.getElem?_toArray, List.append_assoc, List.getElem?_append, List.length_take, Array.length_toList, m1, hyl, List.getElem?_take, List.getElem?_drop]
     rcases a1 with a1 | a1
     ·rw [if_pos (by omega), if_pos (by omega), Array.getElem?_toList]
     ·rw [if_neg (by omega), if_neg (by omega), Array.getElem?_toList]
      congr 1; omega
   ·simp only [List.getElem?_set, if_neg hee] at hx'
    obtain ⟨u, q1, q2, q3⟩ := h6 e' x' hx' j q hq
    refine ⟨u, ?_, q2, q3⟩
    rw [← q1]
    have he' := (List.getElem?_eq_some_iff.1 hx').1
    have hsz' := hmul e' he'
    simp only [List.getElem?_toArray, List.append_assoc, List.getElem?_append, List.length_take, Array.length_toList, List.getElem?_take, List.getElem?_drop, hyl, m1]
    rcases Nat.lt_or_gt_of_ne hee with c1 | c1
    ·have : (e + 1) * c.sz ≤ e' * c.sz := Nat.mul_le_mul_right _ c1
     rw [Nat.succ_mul] at this
     rw [if_neg (by omega), if_neg (by omega), Array.getElem?_toList]
     congr 1; omega
    ·have : (e' + 1) * c.sz ≤ e * c.sz := Nat.mul_le_mul_right _ c1
     rw [Nat.succ_mul] at this
     rw [if_pos (by omega), if_pos (by omega), Array.getElem?_toList]

theorem xnilCheck_sound {x : TV} {u : Value} {K : TV → St → Prop} (h : xnilCheck x s K) (hx : TR G x u) :
  ∃ x', K x' s ∧ TR G x' u ∧ notNil u = true := by
 unfold xnilCheck at h
 split at h
 ·obtain ⟨hh, rfl, h⟩ := refK_iff.1 h
  refine ⟨_, h, hx, ?_⟩
  cases hx; rfl
 ·exact h.elim

theorem xfieldAddr_sound (htt : TTOK P tt) {t : Nat} (hok : (tt.at t).ok = true) {x : TV} {u : Value} {f : Nat} {K : TV → St → Prop} (h : xfieldAddr tt t x f s K)
  (hi : Inv Mine G s.hp s.T w) (hx : TR G x u) : Res Mine G s w ((Instr.fieldAt t u f).run P w) K := by
 unfold xfieldAddr at h
 split at h
 case h_2 => exact h.elim
 rename_i fs hh c e p hk
 obtain ⟨fields, hd, hf⟩ := strct_und htt hok hk
 split at h
 case h_2 => exact h.elim
 rename_i off ft hft
 obtain ⟨fd, h1, h2, h3, h4⟩ := hf f off ft hft
 split at h
 case h_2 => exact h.elim
 rename_i hb
 simp only [Bool.and_eq_true] at hb
 obtain ⟨⟨b1, b2⟩, b3⟩ := hb
 have b2 := Nat.eq_of_beq_eq_true b2
 have run : ∀ (b o : Nat), 1 ≤ (tt.at ft).size → (Instr.fieldAt t (.pointer (some ⟨b, o, none⟩)) f).run P w = .ok (.pointer (some ⟨b, o + off, none⟩)) w := by
  intro b o hs
  have hz : ¬ ((tt.at ft).size = 0) := by omega
  have hsz := run_sizeOf htt h4 w
  rw [← h3] at hsz
  rw [← h3] at hz
  simp only [Instr.fieldAt, Sem.run_bind, run_underlying hd, Result.andThen_ok, h1, Instr.sureAddr, Sem.run_pure, fieldPlace, hsz, if_neg hz, h2, addr_add]
 cases hx with
 | ref _ _ _ _ b ct hloc hpp =>
  refine Res.same hi (run _ _ (Nat.le_of_ble_eq_true b3)) h ?_
  obtain ⟨q1, q2, q3⟩ := Xd.path_append c p (fsteps fs.length f) hpp
  rw [Nat.add_assoc, ← b2, ← q2]
  exact .ref hh c e _ b ct hloc (q3.2 (Xd.okB_ok _ _ b1))

theorem xindexAddr_sound (htt : TTOK P tt) {t : Nat} {x ix : TV} {u v : Value} {K : TV → St → Prop} (h : xindexAddr tt t x ix s K)
  (hi : Inv Mine G s.hp s.T w) (hx : TR G x u) (hv : TR G ix v) : Res Mine G s w ((Instr.indexAt t u v).run P w) K := by
 unfold xindexAddr at h
 split at h
 ·rename_i c x k i
  split at h
  case h_2 => exact h.elim
  rename_i e he
  obtain ⟨hd, hok, hkt⟩ := slT_ok htt he
  split at h
  case h_2 => exact h.elim
  rename_i hfit
  obtain ⟨hoke, hsz, hag⟩ := fitX_spec hfit
  obtain ⟨m, rfl, h0, h1, h⟩ := h
  cases hv with | v _ _ hv => cases hv with | int =>
  cases hx with
  | sl _ _ b ct o hl l1 l2 ho =>
   have hin : 0 ≤ i ∧ i < (m.len : Int) := ⟨h0, h1⟩
   have ho' := ho (by omega)
   subst ho'
   have hr : (Instr.indexAt t (.slice (some ⟨b, m.off * c.sz, none⟩) m.len m.cap) (.int k i)).run P w = .ok (.pointer (some ⟨b, m.off * c.sz + i.toNat * c.sz, none⟩)) w := by
    rw [hsz]
    simp only [Instr.indexAt, asIntOf, Sem.run_bind, Sem.run_pure, Result.andThen_ok, run_underlying hd, if_pos hin, run_sizeOf htt hoke, addr_add]
   refine Res.same hi hr h ?_
   have := TR.ref (G := G) m.h c (m.off + i.toNat) [] b ct hl (by cases c <;> trivial)
   have h0 : c.off [] = 0 := by cases c <;> rfl
   rw [h0, Nat.add_zero, Nat.add_mul] at this
   exact this
 ·rename_i hh c e p k i
  split at h
  case h_2 => exact h.elim
  rename_i n' elt n a hok hkt hat
  split at h
  case h_2 => exact h.elim
  rename_i hb
  simp only [Bool.and_eq_true] at hb
  obtain ⟨b1, b2⟩ := hb
  obtain ⟨hoke, hsz, hag⟩ := fitX_spec b2
  have hn := Nat.eq_of_beq_eq_true b1
  subst hn
  obtain ⟨h0, h1, h⟩ := h
  obtain ⟨d, hd, hk⟩ := (htt t hok).und
  rw [hkt] at hk
  obtain ⟨rfl, _⟩ := hk
  cases hv with | v _ _ hv => cases hv with | int =>
  cases hx with
  | ref _ _ _ _ b ct hloc hpp =>
   have hin : 0 ≤ i ∧ i < (n : Int) := ⟨h0, h1⟩
   have hr : (Instr.indexAt t (.pointer (some ⟨b, e * c.sz + c.off p, none⟩)) (.int k i)).run P w = .ok (.pointer (some ⟨b, e * c.sz + c.off p + i.toNat * a.sz, none⟩)) w := by
    rw [hsz]
    simp only [Instr.indexAt, asIntOf, Sem.run_bind, Sem.run_pure, Result.andThen_ok, run_underlying hd, Instr.sureAddr, if_pos hin, run_sizeOf htt hoke, addr_add]
   refine Res.same hi hr h ?_
   obtain ⟨q1, q2, q3⟩ := Xd.path_append c p [.idx i.toNat] hpp
   have e1 : (c.at p).off [.idx i.toNat] = i.toNat * a.sz := by
    rw [hat]; simp [Xd.off]
   rw [Nat.add_assoc, ← e1, ← q2]
   refine .ref hh c e _ b ct hloc (q3.2 ?_)
   rw [hat]
   exact ⟨by omega, by cases a <;> trivial⟩
 ·exact h.elim

end
end Go.Proofs.YtdcljlafookliaaDoor.AB

namespace Go.Proofs.YtdcljlafookliaaDoor.AB
open Go

def Row (G : Gh) (c : Xd) (l : List c.T) (us : List Value) : Prop :=
 us.length = l.length * c.sz ∧ ∀ (e : Nat) x, l[e]? = some x → ∀ (j : Nat) y, (c.cells x)[j]? = some y → ∃ u, us[e * c.sz + j]? = some u ∧ TR G y u ∧ u.oneCell' = true

section
variable {P : Program} {tt : TT} {Mine : Mn} {G : Gh} {s : St} {a : Act} {w : World} {c : Xd}

theorem Row.mono {n : Nat} {G' : Gh} (hb : Lb n G) (hf : Fz0 G G') (hl : Lc n G G') {l : List c.T} {us : List Value} (h : Row G c l us) : Row G' c l us :=
 ⟨h.1, fun e x hx j y hy => let ⟨u, h1, h2, h3⟩ := h.2 e x hx j y hy; ⟨u, h1, h2.mono hb hf hl, h3⟩⟩

theorem Row.one {l : List c.T} {us : List Value} (h : Row G c l us) : ∀ u ∈ us, u.oneCell' = true := by
 intro u hu
 obtain ⟨k, hk⟩ := List.getElem?_of_mem hu
 have hkl := (List.getElem?_eq_some_iff.1 hk).1
 rw [h.1] at hkl
 have hpos : 0 < c.sz := by
  rcases Nat.eq_zero_or_pos c.sz with e | e
  ·rw [e] at hkl; omega
  ·exact e
 have h1 : k / c.sz < l.length := (Nat.div_lt_iff_lt_mul hpos).2 hkl
 have hm := Nat.mod_lt k hpos
 obtain ⟨u', q1, q2, q3⟩ := h.2 (k / c.sz) _ (List.getElem?_eq_getElem h1) (k % c.sz) _ (List.getElem?_eq_getElem (by rw [Xd.length_cells]; exact hm))
 rw [show k / c.sz * c.sz + k % c.sz = k by rw [Nat.mul_comm]; exact Nat.div_add_mod k c.sz, hk] at q1
 cases q1; exact q3

theorem Row.nil : Row G c [] [] := ⟨by simp, fun e x hx => by simp at hx⟩

theorem Row.append {l l' : List c.T} {us us' : List Value} (h : Row G c l us) (h' : Row G c l' us') : Row G c (l ++ l') (us ++ us') := by
 refine ⟨by simp [h.1, h'.1, Nat.add_mul], fun e x hx j y hy => ?_⟩
 have hj : j < c.sz := by
  have := (List.getElem?_eq_some_iff.1 hy).1
  rwa [Xd.length_cells] at this
 rw [List.getElem?_append] at hx
 rw [List.getElem?_append, h.1]
 split at hx
 ·rename_i he
  have := Nat.mul_le_mul_right c.sz (show e + 1 ≤ l.length from he)
  rw [Nat.succ_mul] at this
  rw [if_pos (by omega)]
  exact h.2 e x hx j y hy
 ·rename_i he
  have := Nat.mul_le_mul_right c.sz (show l.length ≤ e by omega)
  rw [if_neg (by omega)]
  obtain ⟨u, q1, q2⟩ := h'.2 _ x hx j y hy
  refine ⟨u, ?_, q2⟩
  rw [← q1, Nat.sub_mul]; congr 1; omega

theorem Row.take {l : List c.T} {us : List Value} (h : Row G c l us) (n : Nat) : Row G c (l.take n) (us.take (n * c.sz)) := by
 refine ⟨by simp only [List.length_take, h.1, Nat.mul_min_mul_right], fun e x hx j y hy => ?_⟩
 have hj : j < c.sz := by
  have := (List.getElem?_eq_some_iff.1 hy).1
  rwa [Xd.length_cells] at this
 rw [List.getElem?_take] at hx
 split at hx
 ·rename_i he
  have := Nat.mul_le_mul_right c.sz (show e + 1 ≤ n from he)
  rw [Nat.succ_mul] at this
  rw [List.getElem?_take, if_pos (by omega)]
  exact h.2 e x hx j y hy
 ·cases hx

theorem Row.drop {l : List c.T} {us : List Value} (h : Row G c l us) (n : Nat) : Row G c (l.drop n) (us.drop (n * c.sz)) := by
 refine ⟨by simp [h.1, Nat.sub_mul], fun e x hx j y hy => ?_⟩
 rw [List.getElem?_drop] at hx
 rw [List.getElem?_drop]
 obtain ⟨u, q1, q2⟩ := h.2 _ x hx j y hy
 refine ⟨u, ?_, q2⟩
 rw [← q1, Nat.add_mul, Nat.add_assoc]

theorem Row.over {l l' : List c.T} {us us' : List Value} (h : Row G c l us) (h' : Row G c l' us') (k : Nat) :
  Row G c (over l k l') (us.take (k * c.sz) ++ us' ++ us.drop (k * c.sz + us'.length)) := by
 have := ((h.take k).append h').append (h.drop (k + l'.length))
 rw [Nat.add_mul, ← h'.1] at this
 exact this

theorem Row.xr {h : Nat} {l : List c.T} {b : Nat} {cur : Array Value} {el : TypeId} (h1 : G.loc 0 h = some (some b, c.sz, l.length)) (h2 : Mine b) (h3 : G.priv b)
  (h4 : w.heap[b]? = some (.cells cur el (0, 0))) (hr : Row G c l cur.toList) : XR Mine G w h (.arr c l) := by
 refine ⟨b, h1, h2, h3, cur, el, h4, by simpa using hr.1, fun e x hx j y hy => ?_⟩
 obtain ⟨u, q1, q2⟩ := hr.2 e x hx j y hy
 exact ⟨u, by simpa using q1, q2⟩

theorem XR.row {h : Nat} {l : List c.T} (k : XR Mine G w h (.arr c l)) : ∃ b cur el, G.loc 0 h = some (some b, c.sz, l.length) ∧ Mine b ∧ G.priv b ∧
  w.heap[b]? = some (.cells cur el (0, 0)) ∧ Row G c l cur.toList := by
 obtain ⟨b, h1, h2, h3, cur, el, h4, h5, h6⟩ := k
 exact ⟨b, cur, el, h1, h2, h3, h4, by simpa using h5, fun e x hx j y hy => by simpa using h6 e x hx j y hy⟩

theorem view_row {X : XH} {hp : Hp} {T : Toks} (hi : Inv Mine G hp T w) (h0 : hp[0]? = some (some (.heap X))) {m : SlH} {l : List c.T} (hv : X.view c (some m) = some l)
  {b ct : Nat} (hl : G.loc 0 m.h = some (some b, c.sz, ct)) (h1 : m.len ≤ m.cap) (h2 : m.off + m.cap ≤ ct) :
  ∃ (ar : List c.T) (cur : Array Value) (el : TypeId), X.arr c m.h = some ar ∧ ar.length = ct ∧ l = (ar.drop m.off).take m.len ∧ l.length = m.len ∧ Mine b ∧ G.priv b ∧
   w.heap[b]? = some (.cells cur el (0, 0)) ∧ Row G c ar cur.toList ∧ Row G c l ((cur.toList.drop (m.off * c.sz)).take (m.len * c.sz)) := by
 simp only [XH.view] at hv
 split at hv
 case h_2 => cases hv
 rename_i ar har
 cases hv
 obtain ⟨b', cur, el, k1, k2, k3, k4, k5⟩ := (hi.xarr h0 har).row
 rw [hl] at k1; cases k1
 exact ⟨ar, cur, el, har, rfl, rfl, by simp; omega, k2, k3, k4, k5, (k5.drop _).take _⟩

theorem load_row {b o : Nat} {cur : Array Value} {el : TypeId} (hb : w.heap[b]? = some (.cells cur el (0, 0))) {us : List Value} (hus : ∀ (j : Nat) y, us[j]? = some y → cur[o + j]? = some y)
  {w' : World} (hw' : w'.heap = w.heap) : (loadCells ⟨b, o, none⟩ us.length).run P w' = .ok us.toArray w' := by
 refine run_loadCells_list (P := P) w' ⟨b, o, none⟩ us (fun j y hy => ?_)
 rw [addr_add, cell_heap hw', cell_of_block hb]
 exact hus j y hy

theorem srcX_sound {X : XH} (hi : Inv Mine G s.hp s.T w) (hX : hpX s.hp = some X) {y : TV} {v : Value} {l' : List c.T} (h : srcX X c y = some l') (hy : TR G y v) :
  ∃ news, Src P w c.sz l'.length v news ∧ Row G c l' news ∧ ∀ (w' : World) (n : Nat), w'.heap = w.heap → n ≤ l'.length →
   (Builtin.firstCells c.sz n v).run P w' = .ok (news.take (n * c.sz)).toArray w' := by
 have pureCase : ∀ {d : Cd} {y : TV} {l : List d.T}, srcOf d y s.hp = some l → TR G y v → (∀ (w' : World) (n : Nat), w'.heap = w.heap → n ≤ l.length → ∀ news : List Value,
   (Builtin.firstCells d.sz l.length v).run P w' = .ok news.toArray w' → news.length = l.length * d.sz → (Builtin.firstCells d.sz n v).run P w' = .ok (news.take (n * d.sz)).toArray w') →
   ∃ news, Src P w (Xd.pure d).sz l.length v news ∧ Row G (.pure d) l news ∧ ∀ (w' : World) (n : Nat), w'.heap = w.heap → n ≤ l.length →
    (Builtin.firstCells (Xd.pure d).sz n v).run P w' = .ok (news.take (n * (Xd.pure d).sz)).toArray w' := by
  intro d y l h hy hpre
  obtain ⟨news, hs, hn⟩ := src_sound (P := P) hi h hy
  refine ⟨news, hs, ⟨hs.size, fun e x hx j q hq => ?_⟩, fun w' n hw' hnl => hpre w' n hw' hnl news (hs.cells w' hw') hs.size⟩
  simp only [Xd.cells, List.getElem?_map] at hq
  cases hc : (d.cells x)[j]? with
  | none => rw [hc] at hq; cases hq
  | some z =>
   rw [hc] at hq; cases hq
   obtain ⟨u, k1, k2⟩ := hn _ _ (flat_get d l hx hc)
   exact ⟨u, k1, .v _ _ k2, hs.one u (List.mem_of_getElem? k1)⟩
 unfold srcX at h
 split at h
 ·rename_i c' x
  split at h
  case isFalse => cases h
  rename_i e
  subst e
  cases hy with
  | sl0 _ ao =>
   simp only [XH.view, Option.some.injEq] at h
   subst h
   exact ⟨[], ⟨fun w' => by simp [Builtin.lenOf], fun w' _ => by cases ao <;> simp [Builtin.firstCells, loadCells, loadCellsFrom], by simp, by simp⟩, Row.nil, fun w' n _ hn => by
    have : n = 0 := by simpa using hn
    subst this
    cases ao <;> simp [Builtin.firstCells, loadCells, loadCellsFrom]⟩
  | sl m _ b ct o hl h1 h2 ho =>
   obtain ⟨ar, cur, el, k1, k2, k3, k4, k5, k6, k7, k8, k9⟩ := view_row hi (hpX_get hX) h hl h1 h2
   have hlen : ((cur.toList.drop (m.off * c'.sz)).take (m.len * c'.sz)).length = m.len * c'.sz := by rw [k9.1, k4]
   have pre : ∀ (w' : World) (n : Nat), w'.heap = w.heap → n ≤ m.len →
     (Builtin.firstCells c'.sz n (.slice (some ⟨b, o, none⟩) m.len m.cap)).run P w' = .ok (((cur.toList.drop (m.off * c'.sz)).take (m.len * c'.sz)).take (n * c'.sz)).toArray w' := by
    intro w' n hw' hn
    rcases Nat.eq_zero_or_pos n with e | e
    ·subst e; simp [Builtin.firstCells, loadCells, loadCellsFrom]
    ·have := ho (by omega)
     subst this
     simp only [Builtin.firstCells]
     have hle := Nat.mul_le_mul_right c'.sz hn
     have hl2 : (((cur.toList.drop (m.off * c'.sz)).take (m.len * c'.sz)).take (n * c'.sz)).length = n * c'.sz := by rw [List.length_take, hlen]; omega
     refine Eq.trans (by rw [hl2]) (load_row (P := P) (w := w) (el := el) k7 (fun j y hy => ?_) hw')
     rw [List.getElem?_take] at hy
     split at hy
     ·rw [List.getElem?_take] at hy
      split at hy
      ·rw [List.getElem?_drop] at hy
       simpa using hy
      ·cases hy
     ·cases hy
   refine ⟨_, ⟨fun w' => by simp [Builtin.lenOf, k4], fun w' hw' => ?_, by rw [hlen, k4], k9.one⟩, k9, fun w' n hw' hn => pre w' n hw' (by omega)⟩
   have := pre w' m.len hw' (Nat.le_refl _)
   rw [k4, this]
   congr 2
   rw [List.take_of_length_le (by omega)]
 ·rename_i d l t
  split at h
  case isFalse => cases h
  rename_i e
  subst e
  cases h
  refine pureCase (y := .v (.list d l t)) (by simp [srcOf]) hy (fun w' n hw' hnl news hnews hlen => ?_)
  cases hy with | v _ _ hy =>
  cases hy with
  | list _ _ _ a cap b o vals ha hcap hc hoo hv ht =>
   rcases Nat.eq_zero_or_pos n with e | e
   ·subst e
    cases a <;> simp [Builtin.firstCells, loadCells, loadCellsFrom]
   ·have hne : l ≠ [] := by intro e'; subst e'; simp at hnl; omega
    obtain rfl := ha hne
    simp only [Builtin.firstCells] at hnews ⊢
    have hle := Nat.mul_le_mul_right d.sz hnl
    have hcell : ∀ (j : Nat) y, news[j]? = some y → w'.cell? ⟨b, o + j, none⟩ = some y := by
     have hvals := run_loadCells_list (P := P) w' ⟨b, o, none⟩ ((List.range (l.length * d.sz)).map vals) (fun j y hy => by
      obtain ⟨hj, rfl⟩ := range_vals hy
      have hq : (l.flatMap d.cells)[j]? = some _ := List.getElem?_eq_getElem (by rw [length_flat]; exact hj)
      rw [addr_add, cell_heap hw']
      exact hi.cells _ _ _ (hc j _ hq))
     simp only [List.length_map, List.length_range] at hvals
     rw [hvals] at hnews
     intro j y hy
     have hnn : news = (List.range (l.length * d.sz)).map vals := by
      cases hnews; rfl
     rw [hnn] at hy
     obtain ⟨hj, rfl⟩ := range_vals hy
     have hq : (l.flatMap d.cells)[j]? = some _ := List.getElem?_eq_getElem (by rw [length_flat]; exact hj)
     rw [cell_heap hw']
     exact hi.cells _ _ _ (hc j _ hq)
    have := run_loadCells_list (P := P) w' ⟨b, o, none⟩ (news.take (n * d.sz)) (fun j y hy => by
     rw [addr_add]
     rw [List.getElem?_take] at hy
     split at hy
     ·exact hcell j y hy
     ·cases hy)
    rw [List.length_take, Nat.min_eq_left (by omega)] at this
    exact this
 ·rename_i l
  split at h
  case isFalse => cases h
  rename_i e
  subst e
  cases h
  refine pureCase (y := .v (.str l)) (by simp [srcOf]) hy (fun w' n hw' hnl news hnews hlen => ?_)
  cases hy with | v _ _ hy =>
  cases hy
  simp only [Cd.sz, Nat.mul_one] at hlen ⊢
  simp only [Builtin.firstCells, Sem.run_pure, Result.ok.injEq, and_true] at hnews ⊢
  have hn : news = (bytesOf l).map (Value.int .u8) := by
   have := congrArg Array.toList hnews
   simp only [Array.toList_map] at this
   rw [show news = news.toArray.toList by simp, ← this]
   simp [bytesOf, ByteArray.data_extract, List.extract_eq_take_drop]
  subst hn
  apply Array.ext'
  simp [bytesOf, ByteArray.data_extract, List.extract_eq_take_drop, List.map_take]
  rfl
 ·cases h

end
end Go.Proofs.YtdcljlafookliaaDoor.AB

namespace Go.Proofs.YtdcljlafookliaaDoor.AB
open Go

section
variable {P : Program} {tt : TT} {Mine : Mn} {G : Gh} {s : St} {a : Act} {w : World} {c : Xd}

theorem vrZ_zn {x : V} {y : Value} (h : vrZ x y = true) : TR G x.zn y := by
 cases x with
 | list c l t =>
  cases t with
  | exact =>
   cases y with
   | slice a n k =>
    cases a with
    | none =>
     simp only [vrZ, Bool.and_eq_true] at h
     rw [Nat.eq_of_beq_eq_true h.1.2, Nat.eq_of_beq_eq_true h.2]
     exact .v _ _ .nils
    | some a => simp [vrZ] at h
   | _ => simp [vrZ] at h
  | _ => exact .v _ _ (vrZ_spec h)
 | _ => exact .v _ _ (vrZ_spec h)

theorem vrZL_zn : ∀ {l : List V} {vs : List Value}, vrZL l vs = true → ∀ (i : Nat) x y, (l.map V.zn)[i]? = some x → vs[i]? = some y → TR G x y
 | [], [], _, i, x, y, hx, _ => by simp at hx
 | [], _ :: _, h, _, _, _, _, _ => by simp [vrZL] at h
 | _ :: _, [], h, _, _, _, _, _ => by simp [vrZL] at h
 | x :: l, v :: vs, h, i, x', y, hx, hy => by
  simp only [vrZL, Bool.and_eq_true] at h
  cases i with
  | zero => simp at hx hy; subst hx hy; exact vrZ_zn h.1.1
  | succ i => exact vrZL_zn h.2 i x' y (by simpa using hx) (by simpa using hy)

theorem zero_zn {x : V} {y : Value} (h : vrZT x y = true) (hl : x.cells.length = y.cells.size) :
  ∀ (i : Nat) z u, (x.cells.map V.zn)[i]? = some z → y.cells.toList[i]? = some u → TR G z u := by
 unfold vrZT at h
 split at h
 ·rename_i l vs
  intro i z u hz hu
  exact vrZL_zn h i z u hz (by simpa [Value.cells] using hu)
 ·rename_i hno
  intro i z u hz hu
  have hx : x.cells = [x] := by
   cases x <;> first
    | rfl
    | (cases y <;> first | exact absurd rfl (hno _ _ rfl) | simp [vrZ] at h)
  have hy : y.cells = #[y] := by
   cases y <;> first
    | rfl
    | (cases x <;> simp [vrZ] at h)
  rw [hx] at hz; rw [hy] at hu
  match i with
  | 0 => simp at hz hu; subst hz hu; exact vrZ_zn h
  | i + 1 => simp at hz

structure ElemX (P : Program) (tt : TT) (e : Nat) (c : Xd) (z : c.T) : Prop where
 ok : (tt.at e).ok = true
 sz : c.sz = (tt.at e).size
 bpos : 0 < (tt.at e).bytes
 pos : 0 < (tt.at e).size
 ag : c.isAgg = (tt.at e).k.isAgg
 row : ∃ i zv, P.info? e = some i ∧ i.zero = some zv ∧ i.size = c.sz ∧ i.bytes = (tt.at e).bytes ∧ zv.cells.size = c.sz ∧ ∀ (w : World), (zeroValue e).run P w = .ok zv w ∧ ∀ G, Row G c [z] zv.cells.toList

theorem zdec_row (htt : TTOK P tt) {e : Nat} (hok : (tt.at e).ok = true) (hsz : c.sz = (tt.at e).size) {z : c.T} (hz : c.zdec (tt.at e).zero = some z) :
  ∃ i zv, P.info? e = some i ∧ i.zero = some zv ∧ i.size = c.sz ∧ i.bytes = (tt.at e).bytes ∧ zv.cells.size = c.sz ∧ ∀ (w : World), (zeroValue e).run P w = .ok zv w ∧ ∀ G, Row G c [z] zv.cells.toList := by
 have hz0 := fun w => run_zero (P := P) htt hok w
 obtain ⟨i, zv, h1, h2, h3, h4, h5, h6, h7, h8⟩ := (htt e hok).info
 obtain ⟨i', zv', k1, k2, k3⟩ := (htt e hok).vz
 rw [h1] at k1; cases k1
 rw [h2] at k2; cases k2
 refine ⟨i, zv, h1, h2, by rw [h3, hsz], h4, by rw [h6, hsz], fun w => ⟨by simp [zeroValue, typeInfo, h1, h2], fun G => ⟨by simp [h6, hsz], fun k x hx j q hq => ?_⟩⟩⟩
 have hk : k = 0 := by
  have := (List.getElem?_eq_some_iff.1 hx).1
  simpa using this
 subst hk
 simp at hx; subst hx
 unfold Xd.zdec at hz
 split at hz
 case h_2 => cases hz
 rename_i b hg
 cases hz
 obtain ⟨g1, g2, g3⟩ := Xd.get_spec c _ _ _ hg
 obtain ⟨p, e1, e2⟩ := g3 j q hq
 have hj : j < zv.cells.toList.length := by
  have := (List.getElem?_eq_some_iff.1 hq).1
  rw [Xd.length_cells] at this
  simp [h6]; omega
 have := zero_zn (G := G) k3 (by rw [h7, h6]) j p _ e1 (List.getElem?_eq_getElem hj)
 refine ⟨_, by rw [Nat.zero_mul, Nat.zero_add]; exact List.getElem?_eq_getElem hj, e2 G _ this, ?_⟩
 exact Array.all_eq_true.1 h8 j (by simpa using hj)

theorem elemX_spec (htt : TTOK P tt) {e : Nat} {z : c.T} (h : elemX tt e c = some z) : ElemX P tt e c z := by
 unfold elemX at h
 split at h
 case h_2 => cases h
 rename_i hb
 simp only [Bool.and_eq_true, beq_iff_eq] at hb
 obtain ⟨⟨⟨b1, b2⟩, b3, b4⟩, b5⟩ := hb
 rw [Nat.blt_eq] at b3 b4
 have b2 := Nat.eq_of_beq_eq_true b2
 exact ⟨b1, b2, b3, b4, b5, zdec_row htt b1 b2 h⟩

theorem Row.replicate {z : c.T} {us cur : List Value} (h : Row G c [z] us) (m : Nat) (hl : cur.length = m * c.sz) (hc : ∀ k, k < m * c.sz → cur[k]? = us[k % c.sz]?) :
  Row G c (List.replicate m z) cur := by
 refine ⟨by simpa using hl, fun e x hx j y hy => ?_⟩
 have hj : j < c.sz := by
  have := (List.getElem?_eq_some_iff.1 hy).1
  rwa [Xd.length_cells] at this
 rw [List.getElem?_replicate] at hx
 split at hx
 ·rename_i he
  cases hx
  obtain ⟨u, q1, q2⟩ := h.2 0 _ rfl j y hy
  refine ⟨u, ?_, q2⟩
  have := Nat.mul_le_mul_right c.sz (show e + 1 ≤ m from he)
  rw [Nat.succ_mul] at this
  rw [hc _ (by omega), Nat.mul_comm, Nat.mul_add_mod, Nat.mod_eq_of_lt hj]
  simpa using q1
 ·cases hx

theorem made_row {z : c.T} {zv : Value} (h : Row G c [z] zv.cells.toList) (hz : zv.cells.size = c.sz) (hpos : 0 < c.sz) (m : Nat) : Row G c (List.replicate m z) (madeCells zv.cells (m * c.sz)).toList := by
 refine h.replicate m (by simp [size_madeCells]) (fun k hk => ?_)
 have hm := Nat.mod_lt k hpos
 simp only [madeCells, Array.getElem?_toList]
 rw [Array.getElem?_map, Array.getElem?_range, if_pos hk]
 simp only [Option.map_some, hz]
 rw [getElem!_pos zv.cells _ (by omega), Array.getElem?_eq_getElem (by omega)]

theorem zero_row {z : c.T} {zv : Value} (h : Row G c [z] zv.cells.toList) (hz : zv.cells.size = c.sz) (hpos : 0 < c.sz) (m : Nat) : Row G c (List.replicate m z) (Builtin.zeroCells zv.cells m).toList := by
 refine h.replicate m (by simp [size_zeroCells, hz]) (fun k hk => ?_)
 have hm := Nat.mod_lt k hpos
 simp only [Builtin.zeroCells, Array.getElem?_toList]
 rw [Array.getElem?_map, Array.getElem?_range, if_pos (by rw [hz]; exact hk)]
 simp only [Option.map_some, hz]
 rw [getElem!_pos zv.cells _ (by omega), Array.getElem?_eq_getElem (by omega)]

theorem Res.xarr {X : XH} (hi : Inv Mine G s.hp s.T w) (hX : hpX s.hp = some X) {cur : Array Value} {el : TypeId} {l : List c.T} {r : Result Value} {x : TV} {y : Value} {w0 : World} (hw0 : w0.heap = w.heap)
  (hr : r = .ok y (w0.alloc (.cells cur el))) (hst : Stp Mine w w0) (hrow : Row G c l cur.toList)
  (hxy : ∀ G', Fz G G' → Lc s.hp.length G G' → G'.loc 0 X.n = some (some w.heap.size, c.sz, l.length) → TR G' x y)
  {K : TV → St → Prop} (hk : K x (setX s (X.add (.arr c l)))) : Res Mine G s w r K := by
 refine Res.xadd hi hX (sz := c.sz) (ct := l.length) hw0 hr hst (fun G' hf hl hln _ hm hp hb => ?_) hxy hk
 exact Row.xr hln hm hp hb (hrow.mono hi.lb hf hl)

theorem xalloc_sound (htt : TTOK P tt) {e : Nat} (hi : Inv Mine G s.hp s.T w) {K : TV → St → Prop} (h : xalloc tt c e s K) : Res Mine G s w ((Instr.alloc e true (.tuple #[])).run P w) K := by
 unfold xalloc at h
 split at h
 case h_2 => exact h.elim
 rename_i z X hz hX
 have hE := elemX_spec htt hz
 obtain ⟨i, zv, h1, h2, h3, h4, h5, h6⟩ := hE.row
 have hr : (Instr.alloc e true (.tuple #[])).run P w = .ok (.pointer (some ⟨w.heap.size, 0, none⟩)) (w.alloc (.cells zv.cells e)) := by
  simp [Instr.alloc, (h6 w).1, newVar, newRow]
 refine Res.xarr hi hX rfl hr (.refl _ _) ((h6 w).2 G) (fun G' _ _ hln => ?_) (Res.name h)
 have := TR.ref (G := G') X.n c 0 [] _ _ hln (by cases c <;> trivial)
 have h0 : c.off [] = 0 := by cases c <;> rfl
 rwa [h0, Nat.zero_mul] at this

theorem xbox_sound {e : Nat} (hi : Inv Mine G s.hp s.T w) {x : TV} {y : Value} (hx : TR G x y) {K : TV → St → Prop} (h : xbox tt c e x s K) : Res Mine G s w ((Instr.box e y).run P w) K := by
 unfold xbox at h
 split at h
 case h_2 => exact h.elim
 rename_i v X hfit hv hX
 obtain ⟨k1, k2⟩ := Xd.dec_full hv hx
 have hr : (Instr.box e y).run P w = .ok (.pointer (some ⟨w.heap.size, 0, none⟩)) (w.alloc (.cells y.cells e)) := by
  simp [Instr.box, newVar, newRow]
 refine Res.xarr (l := [v]) hi hX rfl hr (.refl _ _) ⟨by simp [k1], fun k x' hx' j q hq => ?_⟩ (fun G' _ _ hln => ?_) (Res.name h)
 ·have hk : k = 0 := by
   have := (List.getElem?_eq_some_iff.1 hx').1
   simpa using this
  subst hk
  simp at hx'; subst hx'
  obtain ⟨u, q1, q2⟩ := k2 j q hq
  exact ⟨u, by rw [Nat.zero_mul, Nat.zero_add]; simpa using q1, q2⟩
 ·have := TR.ref (G := G') X.n c 0 [] _ _ hln (by cases c <;> trivial)
  have h0 : c.off [] = 0 := by cases c <;> rfl
  rwa [h0, Nat.zero_mul] at this

theorem xmake_sound (htt : TTOK P tt) {t : Nat} {l m : TV} {lv cv : Value} {K : TV → St → Prop} (h : xmake tt c t l m s K) (hi : Inv Mine G s.hp s.T w)
  (hl : TR G l lv) (hc : TR G m cv) : Res Mine G s w ((Instr.makeSlice t lv cv).run P w) K := by
 unfold xmake at h
 split at h
 case h_2 => exact h.elim
 rename_i e kl n kc m X he hX
 split at h
 case h_2 => exact h.elim
 rename_i z hz
 obtain ⟨h0, hnm, hroom, h63, h⟩ := h
 have hE := elemX_spec htt hz
 obtain ⟨hd, _, _⟩ := slT_ok htt he
 obtain ⟨i, zv, h1, h2, h3, h4, h5, h6⟩ := hE.row
 cases hl with | v _ _ hl =>
 cases hl
 cases hc with | v _ _ hc =>
 cases hc
 have hbytes : (i.bytes : Int) * m ≤ 281474976710656 := by
  rw [h4, Int.mul_comm]
  have hr : m * ((tt.at e).bytes : Int) ≤ 140737488355328 := by simpa [room] using hroom
  omega
 have hr := run_make (P := P) w t e i zv hd h1 h2 kl kc n m h0 hnm hbytes h63
 rw [h3] at hr
 refine Res.xarr hi hX rfl hr (.refl _ _) (made_row ((h6 w).2 G) h5 (by rw [hE.sz]; exact hE.pos) m.toNat) (fun G' _ _ hln => ?_) (Res.name h)
 rw [List.length_replicate] at hln
 exact .sl ⟨X.n, 0, n.toNat, m.toNat⟩ c _ _ 0 hln (by show n.toNat ≤ m.toNat; omega) (by simp) (fun _ => by simp)

theorem litX_fill : ∀ (parts : List (Nat × TV)) (vs : List (Nat × Value)) (i : Nat) (l : List c.T) (us : List Value), litX c i parts = some l → PR G parts vs →
  (i + parts.length) * c.sz ≤ us.length → ∃ us' : List Value, Instr.fill (fun i => some (i * c.sz, c.sz)) us.toArray vs = some us'.toArray ∧ us'.length = us.length ∧
   (∀ k, k < i * c.sz → us'[k]? = us[k]?) ∧ l.length = parts.length ∧ Row G c l ((us'.drop (i * c.sz)).take (l.length * c.sz))
 | [], [], i, l, us, h, _, _ => by
  simp only [litX, Option.some.injEq] at h
  subst h
  exact ⟨us, rfl, rfl, fun _ _ => rfl, rfl, by simpa using (Row.nil (G := G) (c := c))⟩
 | [], _ :: _, _, _, _, _, hp, _ => hp.elim
 | _ :: _, [], _, _, _, _, hp, _ => hp.elim
 | (k, x) :: parts, (k', v) :: vs, i, l, us, h, hp, hle => by
  obtain ⟨rfl, hx, hp⟩ := hp
  simp only [litX] at h
  split at h
  case h_2 => cases h
  rename_i b hk hb
  have hk := Nat.eq_of_beq_eq_true hk
  subst hk
  split at h
  case h_2 => cases h
  rename_i l1 hl1
  cases h
  obtain ⟨d1, d2⟩ := Xd.dec_full hb hx
  simp only [List.length_cons] at hle
  have hle1 : (i + 1) * c.sz ≤ us.length := Nat.le_trans (Nat.mul_le_mul_right _ (by omega)) hle
  rw [Nat.succ_mul] at hle1
  have hone := fill_one (place := fun i => some (i * c.sz, c.sz)) (i := i) (off := i * c.sz) (n := c.sz) (v := v) (cs := us.toArray) (r := vs) rfl d1 (by simpa using hle1)
  simp only [List.toList_toArray] at hone
  have hlen1 : (us.take (i * c.sz) ++ v.cells.toList ++ us.drop (i * c.sz + c.sz)).length = us.length := by
   simp only [List.length_append, List.length_take, List.length_drop, Array.length_toList, d1]; omega
  obtain ⟨us', g1, g2, g3, g4, g5⟩ := litX_fill parts vs (i + 1) l1 (us.take (i * c.sz) ++ v.cells.toList ++ us.drop (i * c.sz + c.sz)) hl1 hp (by
   rw [hlen1, show i + 1 + parts.length = i + (parts.length + 1) by omega]; exact hle)
  refine ⟨us', by rw [hone]; exact g1, by rw [g2, hlen1], fun k hk => ?_, by simp [g4], ?_⟩
  ·rw [g3 k (by rw [Nat.succ_mul]; omega), List.append_assoc, List.getElem?_append, List.length_take, if_pos (by omega), List.getElem?_take, if_pos hk]
  ·have hrow1 : Row G c [b] ((us'.drop (i * c.sz)).take c.sz) := by
    refine ⟨by simp only [List.length_take, List.length_drop, g2, hlen1, List.length_cons, List.length_nil]; omega, fun e x' hx' j q hq => ?_⟩
    have he : e = 0 := by
     have := (List.getElem?_eq_some_iff.1 hx').1
     simpa using this
    subst he
    simp at hx'; subst hx'
    have hj : j < c.sz := by
     have := (List.getElem?_eq_some_iff.1 hq).1
     rwa [Xd.length_cells] at this
    obtain ⟨u, q1, q2⟩ := d2 j q hq
    refine ⟨u, ?_, q2⟩
    rw [Nat.zero_mul, Nat.zero_add, List.getElem?_take, if_pos hj, List.getElem?_drop, g3 _ (by rw [Nat.succ_mul]; omega), List.append_assoc, List.getElem?_append, List.length_take,
     if_neg (by omega), List.getElem?_append_left (by simp; omega)]
    rw [show i * c.sz + j - min (i * c.sz) us.length = j by omega]
    simpa using q1
   have hsplit : ((us'.drop (i * c.sz)).take ((b :: l1).length * c.sz)) = ((us'.drop (i * c.sz)).take c.sz) ++ ((us'.drop ((i + 1) * c.sz)).take (l1.length * c.sz)) := by
    rw [List.length_cons, Nat.succ_mul, Nat.add_comm, List.take_add, List.drop_drop, Nat.succ_mul]
   rw [hsplit]
   exact hrow1.append g5

theorem xlit0_sound (htt : TTOK P tt) {t : Nat} {parts : List (Nat × TV)} {vs : Array (Nat × Value)} {K : TV → St → Prop}
  (h : xlit0 tt c t parts s K) (hi : Inv Mine G s.hp s.T w) (hp : PR G parts vs.toList) : Res Mine G s w ((Instr.buildSlice t 0 vs).run P w) K := by
 unfold xlit0 at h
 split at h
 case h_2 => exact h.elim
 rename_i e he
 split at h
 case h_2 => exact h.elim
 rename_i hfit
 obtain ⟨hoke, hsz, hag⟩ := fitX_spec hfit
 obtain ⟨hd, _, _⟩ := slT_ok htt he
 have hvs : vs = #[] := by
  cases vs with
  | mk l => cases l with
   | nil => rfl
   | cons _ _ => cases hp
 subst hvs
 have hr : (Instr.buildSlice t 0 #[]).run P w = .ok (.slice (some ⟨w.heap.size, 0, none⟩) 0 0) (w.alloc (.cells #[] e)) := by
  simp only [Instr.buildSlice, Sem.run_bind, run_underlying hd, Result.andThen_ok, run_sizeOf htt hoke, Nat.zero_mul]
  rw [if_neg (by omega), if_pos trivial]
  have e0 : ∀ f : Nat → Value, Array.map f (Array.range 0) = #[] := fun f => by simp
  simp only [Sem.run_bind, Sem.run_pure, Result.andThen_ok, e0]
  simp only [Instr.fill, Sem.run_bind, newRow, run_newObj, Sem.run_pure, Result.andThen_ok, World.alloc]
 obtain ⟨k1, k2, k3, k4⟩ := hi.addFrozen (#[] : Array Value) e (0, 0) (fun _ => none) (fun _ _ e => by cases e)
 exact ⟨_, _, _, _, s, hr, h, .sl0 c _, rfl, k1, k2, k3, Nat.le_refl _, k4⟩

theorem xlit_sound (htt : TTOK P tt) {t len : Nat} {parts : List (Nat × TV)} {vs : Array (Nat × Value)} {K : TV → St → Prop}
  (h : xlit tt c t len parts s K) (hi : Inv Mine G s.hp s.T w) (hp : PR G parts vs.toList) : Res Mine G s w ((Instr.buildSlice t len vs).run P w) K := by
 unfold xlit at h
 split at h
 case h_2 => exact h.elim
 rename_i e X he hX
 split at h
 case h_2 => exact h.elim
 rename_i l hb hl
 simp only [Bool.and_eq_true] at hb
 obtain ⟨⟨⟨b1, b2⟩, b3⟩, b4⟩ := hb
 obtain ⟨hoke, hsz, hag⟩ := fitX_spec b1
 rw [Nat.blt_eq] at b2
 have hlen := Nat.eq_of_beq_eq_true b3
 have hsm := Nat.le_of_ble_eq_true b4
 obtain ⟨hd, _, _⟩ := slT_ok htt he
 obtain ⟨i, z, h1, h2, h3, h4, h5, h6, h7, h8, h9⟩ := run_zero htt hoke w
 obtain ⟨zc, hzc⟩ : ∃ zc : Array Value, ∀ k : Array Value → Sem Value, (if len * (tt.at e).size = 0 then k #[] else (zeroValue e).bind fun v => k v.cells).run P w = (k zc).run P w := by
  by_cases hz : len * (tt.at e).size = 0
  ·exact ⟨#[], fun k => by rw [if_pos hz]⟩
  ·exact ⟨z.cells, fun k => by rw [if_neg hz, Sem.run_bind', h9]; rfl⟩
 have hz0 : ((Array.range (len * (tt.at e).size)).map (zc[· % zc.size]!)).toList.length = len * (tt.at e).size := by simp
 obtain ⟨us', g1, g2, g3, g4, g5⟩ := litX_fill (c := c) parts vs.toList 0 l ((Array.range (len * (tt.at e).size)).map (zc[· % zc.size]!)).toList hl hp (by
  rw [hz0, hsz, Nat.zero_add, hlen]; exact Nat.le_refl _)
 have hr : (Instr.buildSlice t len vs).run P w = .ok (.slice (some ⟨w.heap.size, 0, none⟩) len len) (w.alloc (.cells us'.toArray e)) := by
  rw [hsz] at g1
  rw [Array.toArray_toList] at g1
  simp only [Instr.buildSlice, Sem.run_bind, run_underlying hd, Result.andThen_ok, run_sizeOf htt hoke]
  rw [if_neg (by omega)]
  have := hzc (fun zero => do
   let some cells := Instr.fill (fun i => some (i * (tt.at e).size, (tt.at e).size)) ((Array.range (len * (tt.at e).size)).map (zero[· % zero.size]!)) vs.toList
    | stuck "buildSlice: a part of the wrong size"
   pure (.slice (some (← newRow e cells)) len len))
  simp only [g1] at this
  refine Eq.trans ?_ (this.trans ?_)
  ·rfl
  ·simp only [Sem.run_bind, newRow, run_newObj, Sem.run_pure, Result.andThen_ok, World.alloc]
 have hll : l.length = len := by rw [g4, hlen]
 refine Res.xarr (l := l) hi hX rfl hr (.refl _ _) ?_ (fun G' _ _ hln => ?_) (Res.name h)
 ·rw [Nat.zero_mul, List.drop_zero, List.take_of_length_le (by rw [g2, hz0, hll, hsz]; exact Nat.le_refl _)] at g5
  simpa using g5
 ·rw [hll] at hln
  exact .sl ⟨X.n, 0, len, len⟩ c _ _ 0 hln (Nat.le_refl _) (by simp) (fun _ => by simp)

end
end Go.Proofs.YtdcljlafookliaaDoor.AB

namespace Go.Proofs.YtdcljlafookliaaDoor.AB
open Go

section
variable {P : Program} {tt : TT} {Mine : Mn} {G : Gh} {s : St} {a : Act} {w : World} {c : Xd}

theorem boundsX_run {len cap : Nat} {lo hi : Option TV} {lov hiv : Option Value} {K : Nat → Nat → Prop} (h : boundsX len cap lo hi K) (hl : OptR G lo lov) (hh : OptR G hi hiv)
  (hc : len ≤ cap) : ∃ l h, (Instr.sliceBounds true len cap lov hiv none).run P w = .ok (l, h, cap) w ∧ l ≤ h ∧ h ≤ cap ∧ K l h := by
 unfold boundsX at h
 split at h
 ·match lov, hiv, hl, hh with
  | none, none, _, _ => exact ⟨0, len, by simp [Instr.sliceBounds], Nat.zero_le _, hc, h⟩
 ·rename_i k l
  match lov, hiv, hl, hh with
  | some v, none, hl, _ =>
   cases hl with | v _ _ hl =>
   cases hl
   obtain ⟨h0, h1, h2⟩ := h
   refine ⟨l.toNat, len, ?_, by omega, hc, h2⟩
   simp [Instr.sliceBounds, run_sliceBound w k l len _ h0 h1]
 ·rename_i k q
  match lov, hiv, hl, hh with
  | none, some v, _, hh =>
   cases hh with | v _ _ hh =>
   cases hh
   obtain ⟨h0, h1, h2⟩ := h
   refine ⟨0, q.toNat, ?_, Nat.zero_le _, by omega, h2⟩
   simp [Instr.sliceBounds, run_sliceBound w k q cap _ h0 h1]
 ·rename_i kl l kh q
  match lov, hiv, hl, hh with
  | some u, some v, hl, hh =>
   cases hl with | v _ _ hl =>
   cases hl
   cases hh with | v _ _ hh =>
   cases hh
   obtain ⟨h0, h1, h2, h3⟩ := h
   refine ⟨l.toNat, q.toNat, ?_, by omega, by omega, h3⟩
   simp [Instr.sliceBounds, run_sliceBound w kh q cap _ (by omega) h2, run_sliceBound w kl l q.toNat _ h0 (by omega)]
 ·exact h.elim

theorem boundsX_run_max {len cap m : Nat} {km : IntKind} {lo hi : Option TV} {lov hiv : Option Value} {K : Nat → Nat → Prop} (h : boundsX len m lo hi K) (hl : OptR G lo lov) (hh : OptR G hi hiv)
  (hs : hi.isSome = true) (hc : m ≤ cap) : ∃ l h, (Instr.sliceBounds true len cap lov hiv (some (.int km m))).run P w = .ok (l, h, m) w ∧ l ≤ h ∧ h ≤ m ∧ K l h := by
 unfold boundsX at h
 split at h
 ·cases hs
 ·cases hs
 ·rename_i k q
  match lov, hiv, hl, hh with
  | none, some v, _, hh =>
   cases hh with | v _ _ hh =>
   cases hh
   obtain ⟨h0, h1, h2⟩ := h
   refine ⟨0, q.toNat, ?_, Nat.zero_le _, by omega, h2⟩
   have e1 := run_sliceBound (P := P) w km m cap .slice3Acap (by omega) (by omega)
   have e2 := run_sliceBound (P := P) w k q m .slice3B h0 (by omega)
   simp [Instr.sliceBounds, e1, e2]
 ·rename_i kl l kh q
  match lov, hiv, hl, hh with
  | some u, some v, hl, hh =>
   cases hl with | v _ _ hl =>
   cases hl
   cases hh with | v _ _ hh =>
   cases hh
   obtain ⟨h0, h1, h2, h3⟩ := h
   refine ⟨l.toNat, q.toNat, ?_, by omega, by omega, h3⟩
   have e1 := run_sliceBound (P := P) w km m cap .slice3Acap (by omega) (by omega)
   have e2 := run_sliceBound (P := P) w kh q m .slice3B (by omega) (by omega)
   have e3 := run_sliceBound (P := P) w kl l q.toNat .slice3C h0 (by omega)
   simp [Instr.sliceBounds, e1, e2, e3]
 ·exact h.elim

theorem sl_nums {x : Option SlH} {u : Value} (h : TR G (.sl c x) u) : ∃ ao, u = .slice ao (slN x) (slC x) ∧ slN x ≤ slC x := by
 cases h with
 | sl0 _ a => exact ⟨a, rfl, Nat.le_refl _⟩
 | sl m _ b ct o hl h1 h2 ho => exact ⟨_, rfl, h1⟩

theorem slCut_R {x : Option SlH} {ao : Option Addr} (h : TR G (.sl c x) (.slice ao (slN x) (slC x))) {p q m : Nat} (h1 : p ≤ q) (h2 : q ≤ m) (h3 : m ≤ slC x) :
  TR G (.sl c (slCut x p q m)) (.slice (if m = p then ao else ao.map (·.add (p * c.sz))) (q - p) (m - p)) := by
 generalize hu : Value.slice ao (slN x) (slC x) = u at h
 cases h with
 | sl0 =>
  cases hu
  simp only [slC] at h3
  have e1 : m = 0 := by omega
  have e2 : p = 0 := by omega
  have e3 : q = 0 := by omega
  subst e1 e2 e3
  exact .sl0 c _
 | sl n _ b ct o hl l1 l2 ho =>
  cases hu
  simp only [slC] at h3
  have := TR.sl (G := G) ⟨n.h, n.off + p, q - p, m - p⟩ c b ct (if m = p then o else o + p * c.sz) hl (by show q - p ≤ m - p; omega) (by show n.off + p + (m - p) ≤ ct; omega)
   (fun hpos => by
    have hpos : 0 < m - p := hpos
    rw [if_neg (by omega), ho (by omega)]
    show _ = (n.off + p) * c.sz
    rw [Nat.add_mul])
  by_cases e : m = p
  ·rw [if_pos e] at this; simp only [if_pos e, slCut]; exact this
  ·rw [if_neg e] at this; simp only [if_neg e, slCut, Option.map_some, addr_add]; exact this

theorem xslice_sound (htt : TTOK P tt) {t : Nat} {x : TV} {u : Value} {lo hi mx : Option TV} {lov hiv mxv : Option Value} {K : TV → St → Prop} (h : xslice tt t x lo hi mx s K)
  (hinv : Inv Mine G s.hp s.T w) (hx : TR G x u) (hl : OptR G lo lov) (hh : OptR G hi hiv) (hm : OptR G mx mxv) : Res Mine G s w ((Instr.sliceAt t u lov hiv mxv).run P w) K := by
 unfold xslice at h
 split at h
 case h_2 => exact h.elim
 rename_i c x e he
 split at h
 case h_2 => exact h.elim
 rename_i hfit
 obtain ⟨hoke, hsz, hag⟩ := fitX_spec hfit
 obtain ⟨hd, _, _⟩ := slT_ok htt he
 obtain ⟨ao, rfl, hlc⟩ := sl_nums hx
 have hse := run_sizeOf htt hoke w
 rw [← hsz] at hse
 split at h
 ·match mxv, hm with
  | none, _ =>
   obtain ⟨l, q, k1, k2, k3, k4⟩ := boundsX_run (P := P) (w := w) h hl hh hlc
   exact Res.same hinv (run_sliceAt_list hd k1 hse) k4 (slCut_R hx k2 k3 (Nat.le_refl _))
 ·rename_i km m
  split at h
  case h_2 => exact h.elim
  rename_i hi'
  obtain ⟨h0, h1, h⟩ := h
  match mxv, hm with
  | some mv, hm =>
   cases hm with | v _ _ hm =>
   cases hm
   obtain ⟨l, q, k1, k2, k3, k4⟩ := boundsX_run_max (P := P) (w := w) (km := km) (cap := slC x) h hl hh rfl (by omega)
   rw [show ((m.toNat : Nat) : Int) = m by omega] at k1
   exact Res.same hinv (run_sliceAt_list hd k1 hse) k4 (slCut_R (m := m.toNat) hx k2 k3 (by omega))
 ·exact h.elim

theorem xlen_sound (htt : TTOK P tt) {t : Nat} (hok : (tt.at t).ok = true) {x : TV} {u : Value} {ty : TypeId} {K : TV → St → Prop} (h : xlen tt t x s K) (hi : Inv Mine G s.hp s.T w) (hx : TR G x u) :
  Res Mine G s w ((Builtin.len_ #[t] ty #[u]).run P w) K := by
 obtain ⟨d, hd, hk⟩ := (htt t hok).und
 have hu := run_underlying (P := P) hd w
 unfold xlen at h
 split at h
 ·rename_i e c x _ hkk
  rw [hkk] at hk; simp only [KOK] at hk; subst hk
  obtain ⟨ao, rfl, _⟩ := sl_nums hx
  exact Res.same hi (by simp [Builtin.len_, hu, goInt]) h (.v _ _ (.int _ _))
 ·rename_i k e kc vc x X hkk hX
  rw [hkk] at hk; obtain ⟨rfl, _⟩ := hk
  obtain ⟨es, he, h⟩ := h
  cases hx with
  | mp0 =>
   simp only [XH.vmp, Option.some.injEq] at he
   subst he
   exact Res.same hi (by simp [Builtin.len_, hu, goInt]) h (.v _ _ (.int _ _))
  | mp hh _ _ b sz ct hl =>
   obtain ⟨b', sz', ct', h1, h2, h3, ents, ck, h4, h5, h6, _⟩ := hi.xmp (hpX_get hX) he
   rw [hl] at h1; cases h1
   have hg : (getObj b).run P w = .ok (.map ents ck) w := by simp [getObj, Sem.run, h4]
   exact Res.same hi (by simp [Builtin.len_, hu, goInt, hg, h5]) h (.v _ _ (.int _ _))
 ·exact h.elim

theorem xcap_sound (htt : TTOK P tt) {t : Nat} (hok : (tt.at t).ok = true) {x : TV} {u : Value} {ty : TypeId} {K : TV → St → Prop} (h : xcap tt t x s K) (hi : Inv Mine G s.hp s.T w) (hx : TR G x u) :
  Res Mine G s w ((Builtin.cap_ #[t] ty #[u]).run P w) K := by
 obtain ⟨d, hd, hk⟩ := (htt t hok).und
 have hu := run_underlying (P := P) hd w
 unfold xcap at h
 split at h
 ·rename_i e c x hkk
  rw [hkk] at hk; simp only [KOK] at hk; subst hk
  obtain ⟨ao, rfl, _⟩ := sl_nums hx
  exact Res.same hi (by simp [Builtin.cap_, hu, goInt]) h (.v _ _ (.int _ _))
 ·exact h.elim

theorem xbin_sound (htt : TTOK P tt) {t : TypeId} {op : BinOp} {x y : TV} {u v : Value} {xo yo : Operand} {K : TV → St → Prop} (hc : Region.isConst yo = true)
  (h : xbin tt op t x y s K) (hi : Inv Mine G s.hp s.T w) (hx : TR G x u) (hy : TR G y v) : Res Mine G s w ((do eqGuard op t xo yo u v; binOp op t u v : Sem Value).run P w) K := by
 unfold xbin at h
 split at h
 case h_2 => exact h.elim
 rename_i b hok hb hv
 obtain ⟨d, hd, hk⟩ := (htt t hok).und
 have key : (Op.equal t u v).run P w = .ok b w ∧ (∀ a, u ≠ .agg a) ∧ (∀ op' bb, (Op.equal t u v).run P w = .ok bb w → (op' = .eql → (binOp op' t u v).run P w = .ok (.bool bb) w) ∧ (op' = .neq → (binOp op' t u v).run P w = .ok (.bool (!bb)) w)) := by
  have fin : ∀ {u v : Value}, plainEq u = true → ∀ op' bb, (Op.equal t u v).run P w = .ok bb w → (op' = .eql → (binOp op' t u v).run P w = .ok (.bool bb) w) ∧ (op' = .neq → (binOp op' t u v).run P w = .ok (.bool (!bb)) w) := by
   intro u v hp op' bb hr
   obtain ⟨h1, h2⟩ := run_binOp_eql hp hr
   exact ⟨fun e => by subst e; exact h1, fun e => by subst e; exact h2⟩
  have finS : ∀ {ao : Option Addr} {n k : Nat} {v : Value}, ∀ op' bb, (Op.equal t (.slice ao n k) v).run P w = .ok bb w → (op' = .eql → (binOp op' t (.slice ao n k) v).run P w = .ok (.bool bb) w) ∧
    (op' = .neq → (binOp op' t (.slice ao n k) v).run P w = .ok (.bool (!bb)) w) := by
   intro ao n k v op' bb hr
   refine ⟨fun e => ?_, fun e => ?_⟩ <;> subst e <;> cases v <;> simp [binOp, hr]
  unfold nilX at hb
  split at hb
  ·rename_i e x c e' hkk
   cases hb
   rw [hkk] at hk hv; simp only [KOK] at hk; subst hk
   have hvp : v = .pointer none := by
    unfold nilV at hv
    split at hv <;> first
     | (rename_i e; cases e; done)
     | (cases hy with | v _ _ hy => cases hy; rfl)
     | cases hv
   subst hvp
   cases hx with
   | ref0 => exact ⟨eq_ptr hd _ _ (.inr rfl), (by intro a e; cases e), fin rfl⟩
   | ref => exact ⟨eq_ptr hd _ _ (.inr rfl), (by intro a e; cases e), fin rfl⟩
  ·rename_i e hh c e' p _ hkk
   cases hb
   rw [hkk] at hk hv; simp only [KOK] at hk; subst hk
   have hvp : v = .pointer none := by
    unfold nilV at hv
    split at hv <;> first
     | (rename_i e; cases e; done)
     | (cases hy with | v _ _ hy => cases hy; rfl)
     | cases hv
   subst hvp
   cases hx with
   | ref => exact ⟨eq_ptr hd _ _ (.inr rfl), (by intro a e; cases e), fin rfl⟩
  ·rename_i k e kc vc x hkk
   cases hb
   rw [hkk] at hk hv; obtain ⟨rfl, _⟩ := hk
   have hvp : v = .map none := by
    unfold nilV at hv
    split at hv <;> first
     | (rename_i e; cases e; done)
     | (cases hy with | v _ _ hy => cases hy; rfl)
     | cases hv
   subst hvp
   cases hx with
   | mp0 => exact ⟨eq_map hd _ _ (.inr rfl), (by intro a e; cases e), fin rfl⟩
   | mp => exact ⟨eq_map hd _ _ (.inr rfl), (by intro a e; cases e), fin rfl⟩
  ·rename_i x hkk
   cases hb
   rw [hkk] at hk hv; simp only [KOK] at hk
   obtain ⟨m, rfl⟩ := hk
   have hvp : v = .nilIface := by
    unfold nilV at hv
    split at hv <;> first
     | (rename_i e; cases e; done)
     | (cases hy with | v _ _ hy => cases hy; rfl)
     | cases hv
   subst hvp
   cases hx with
   | ifc0 => exact ⟨eq_iface hd (x := true) (y := true) rfl rfl rfl, (by intro a e; cases e), fin rfl⟩
   | ifc => exact ⟨eq_iface hd (x := false) (y := true) rfl rfl rfl, (by intro a e; cases e), fin rfl⟩
  ·cases hb
 obtain ⟨k1, k2, k3⟩ := key
 rw [Sem.run_bind, run_eqGuard (.inl (by rw [hc]; simp)) (fun a b e => absurd e (k2 a)), Result.andThen_ok]
 split at h
 ·exact Res.same hi ((k3 .eql b k1).1 rfl) h (.v _ _ (.bool _))
 ·exact Res.same hi ((k3 .neq b k1).2 rfl) h (.v _ _ (.bool _))
 ·exact h.elim

theorem xbinL_sound (htt : TTOK P tt) {t : TypeId} {op : BinOp} {x y : TV} {u v : Value} {xo yo : Operand} {K : TV → St → Prop} (hc : Region.isConst yo = true)
  (h : xbinL tt op t x y s K) (hi : Inv Mine G s.hp s.T w) (hx : TR G x u) (hy : TR G y v) : Res Mine G s w ((do eqGuard op t xo yo u v; binOp op t u v : Sem Value).run P w) K := by
 unfold xbinL at h
 split at h
 case h_2 => exact h.elim
 rename_i e c x hok hkk
 obtain ⟨d, hd, hk⟩ := (htt t hok).und
 rw [hkk] at hk; simp only [KOK] at hk; subst hk
 have hvp : v = .slice none 0 0 := by cases hy with | v _ _ hy => cases hy; rfl
 subst hvp
 have key : ∃ b : Bool, (b = true → x = none) ∧ (Op.equal t u (.slice none 0 0)).run P w = .ok b w ∧ ∃ ao n k, u = .slice ao n k := by
  cases hx with
  | sl0 _ a => exact ⟨a.isNone, fun _ => rfl, eq_slice hd _ _ _, _, _, _, rfl⟩
  | sl => exact ⟨false, fun e => (by cases e), eq_slice hd _ _ _, _, _, _, rfl⟩
 obtain ⟨b, k1, k2, ao, n, k, rfl⟩ := key
 have h := h b k1
 rw [Sem.run_bind, run_eqGuard (.inl (by rw [hc]; simp)) (fun a b e => by intro q; cases q), Result.andThen_ok]
 split at h
 ·exact Res.same hi (by simp [binOp, k2]) h (.v _ _ (.bool _))
 ·exact Res.same hi (by simp [binOp, k2]) h (.v _ _ (.bool _))
 ·exact h.elim

theorem xconvert_sound (htt : TTOK P tt) {src dst : Nat} (h1 : (tt.at src).ok = true) (h2 : (tt.at dst).ok = true) {x : TV} {u : Value} {K : TV → St → Prop}
  (h : xconvert tt src dst x s K) (hi : Inv Mine G s.hp s.T w) (hx : TR G x u) : Res Mine G s w ((convert src dst u).run P w) K := by
 obtain ⟨dd, hdd, hkd⟩ := (htt dst h2).und
 unfold xconvert at h
 split at h
 ·rename_i x X hX
  split at h
  case h_2 => exact h.elim
  rename_i e hkk he
  obtain ⟨hd, _, _⟩ := slT_ok htt he
  split at h
  case h_2 => exact h.elim
  rename_i hke hfit
  obtain ⟨hoke, hsz, hag⟩ := fitX_spec hfit
  obtain ⟨de, hde, hkde⟩ := (htt e hoke).und
  rw [hke] at hkde; simp only [KOK] at hkde; subst hkde
  rw [hkk] at hkd; simp only [KOK] at hkd; subst hkd
  obtain ⟨l, hl, h⟩ := h
  cases hx with
  | sl0 _ ao =>
   simp only [XH.view, Option.some.injEq] at hl
   subst hl
   refine Res.same hi (y := .string ⟨(ofBytes []).toArray⟩) ?_ h (.v _ _ (.str _))
   rw [run_convert_bytes_string w src dst e ao _ 0 hd hde hdd]
   cases ao with
   | none => simp [Conv.bytesToString, ofBytes]; rfl
   | some a =>
    show (Conv.bytesToString (.slice (some a) 0 0)).run P w = _
    rw [run_bytesToString w a 0 0 [] (by simp [loadCells, loadCellsFrom])]
    rfl
  | sl m _ b ct o hloc q1 q2 ho =>
   obtain ⟨ar, cur, el, k1, k2, k3, k4, k5, k6, k7, k8, k9⟩ := view_row hi (hpX_get hX) hl hloc q1 q2
   refine Res.same hi (y := .string ⟨(ofBytes l).toArray⟩) ?_ h (.v _ _ (.str _))
   rw [← k4, run_convert_bytes_string w src dst e (some ⟨b, o, none⟩) _ m.cap hd hde hdd]
   by_cases hl0 : l = []
   ·subst hl0
    show (Conv.bytesToString (.slice (some ⟨b, o, none⟩) 0 m.cap)).run P w = _
    rw [run_bytesToString w ⟨b, o, none⟩ 0 m.cap [] (by simp [loadCells, loadCellsFrom])]
    rfl
   ·have hlp : 0 < l.length := List.length_pos_iff.2 hl0
    have := ho (by omega)
    subst this
    have hcells : ∀ (j : Nat) y, ((l : List Int).map (Value.int .u8))[j]? = some y → w.cell? ((⟨b, m.off * (Xd.pure (.int .u8)).sz, none⟩ : Addr).add j) = some y := by
     intro j y hy
     rw [List.getElem?_map] at hy
     cases hb : l[j]? with
     | none => rw [show (l : List Int)[j]? = none from hb] at hy; cases hy
     | some n =>
      rw [show (l : List Int)[j]? = some n from hb] at hy; cases hy
      have hj : j < m.len := by rw [← k4]; exact (List.getElem?_eq_some_iff.1 hb).1
      rw [k3, List.getElem?_take, if_pos hj, List.getElem?_drop] at hb
      obtain ⟨u, r1, r2, r3⟩ := k8.2 _ n hb 0 (.v (.int .u8 n)) rfl
      cases r2 with | v _ _ r2 =>
      cases r2
      rw [addr_add, cell_of_block k7]
      have : cur[m.off * (Xd.pure (.int .u8)).sz + j]? = some (.int .u8 n) := by
       rw [← Array.getElem?_toList, ← r1]
       simp [Xd.sz, Cd.sz]
      exact this
    rw [run_bytesToString w ⟨b, m.off * (Xd.pure (.int .u8)).sz, none⟩ l.length m.cap l (by
     have := run_loadCells_list (P := P) w ⟨b, m.off * (Xd.pure (.int .u8)).sz, none⟩ ((l : List Int).map (Value.int .u8)) hcells
     simpa using this), foldl_push]
    rfl
 ·exact h.elim

theorem xbuild_sound (htt : TTOK P tt) {t : Nat} (hok : (tt.at t).ok = true) {parts : List (Nat × TV)} {vs : Array (Nat × Value)} {K : TV → St → Prop}
  (h : xbuild tt t parts s K) (hi : Inv Mine G s.hp s.T w) (hp : PR G parts vs.toList) : Res Mine G s w ((Instr.build t vs).run P w) K := by
 unfold xbuild at h
 split at h
 case h_2 => exact h.elim
 rename_i hagg
 split at h
 case h_2 => exact h.elim
 rename_i cs hcs
 obtain ⟨i, z, h1, h2, h3, h4, h5, h6, h7, h8, h9⟩ := run_zero htt hok w
 obtain ⟨d, hd, hk⟩ := (htt t hok).und
 obtain ⟨i', z', k1, k2, k3⟩ := (htt t hok).vz
 rw [h1] at k1; cases k1
 rw [h2] at k2; cases k2
 have hlen : (tt.at t).zero.cells.length = z.cells.size := by rw [h7, h6]
 have hcr : CR G ((tt.at t).zero.cells.map V.zn) z.cells.toList :=
  ⟨by simpa using hlen, fun j p u hz hu => ⟨zero_zn (G := G) k3 hlen j p u hz hu, by
   have hj := (List.getElem?_eq_some_iff.1 hu)
   obtain ⟨hj, rfl⟩ := hj
   exact Array.all_eq_true.1 h8 j (by simpa using hj)⟩⟩
 cases hkk : (tt.at t).k <;> rw [hkk] at hagg hk hcs <;> simp only [TK.isAgg] at hagg
 case bool => cases hagg
 case int => cases hagg
 case str => cases hagg
 case ptr => cases hagg
 case slice => cases hagg
 case map => cases hagg
 case iface => cases hagg
 case func => cases hagg
 case other => cases hagg
 case arr n e =>
  simp only [KOK] at hk
  obtain ⟨rfl, hoke⟩ := hk
  obtain ⟨us', g1, g2⟩ := fill_sound (pl := fun i => some (i * (tt.at e).size, (tt.at e).size)) (fun i x hx => hx) parts vs.toList _ cs _ hp hcs hcr
  refine Res.same hi (y := .agg us'.toArray) ?_ h (TR.mkAgg g2.1 ?_ (fun i x y hx hy => (g2.2 i x y hx hy).1))
  ·simp only [Instr.build, Sem.run_bind, h9, Result.andThen_ok, run_underlying hd, run_sizeOf htt hoke]
   have : z.cells.toList.toArray = z.cells := by simp
   rw [this] at g1
   rw [g1]
   rfl
  ·intro u hu
   obtain ⟨j, hj⟩ := List.getElem?_of_mem hu
   have hjl : j < cs.length := by rw [g2.1]; exact (List.getElem?_eq_some_iff.1 hj).1
   exact (g2.2 j _ u (List.getElem?_eq_getElem hjl) hj).2
 case strct fs =>
  simp only [KOK] at hk
  obtain ⟨fields, rfl, hfl, hf⟩ := hk
  have hall : ∀ (i : Nat) (f : Field), fields[i]? = some f → ∃ off ft, fs[i]? = some (off, ft) ∧ f.offset = off ∧ f.type = ft ∧ (tt.at ft).ok = true := by
   intro i f hfi
   have hlt : i < fs.length := by rw [hfl]; exact (Array.getElem?_eq_some_iff.1 hfi).1
   obtain ⟨f', e1, e2, e3, e4⟩ := hf i (fs[i]).1 (fs[i]).2 (List.getElem?_eq_getElem hlt)
   rw [hfi] at e1; cases e1
   exact ⟨_, _, List.getElem?_eq_getElem hlt, e2, e3, e4⟩
  have hm : (fields.mapM fun f : Field => do pure (f.offset, ← sizeOf f.type) : Sem (Array (Nat × Nat))).run P w = .ok (fields.map fun f : Field => (f.offset, (tt.at f.type).size)) w := by
   refine run_mapM_arr _ _ (fun f hf' => ?_)
   obtain ⟨i, hi'⟩ := List.getElem?_of_mem hf'
   obtain ⟨off, ft, e1, e2, e3, e4⟩ := hall i f (by simpa using hi')
   subst e3
   simp [run_sizeOf htt e4]
  have hsub : ∀ i x, (TK.strct fs).place tt i = some x → (fields.map fun f : Field => (f.offset, (tt.at f.type).size))[i]? = some x := by
   intro i x hx
   simp only [TK.place] at hx
   split at hx
   ·rename_i off ft hft
    cases hx
    obtain ⟨f, e1, e2, e3, _⟩ := hf i off ft hft
    simp [e1, e2, e3]
   ·cases hx
  obtain ⟨us', g1, g2⟩ := fill_sound (pl := ((fields.map fun f : Field => (f.offset, (tt.at f.type).size))[·]?)) hsub parts vs.toList _ cs _ hp hcs hcr
  refine Res.same hi (y := .agg us'.toArray) ?_ h (TR.mkAgg g2.1 ?_ (fun i x y hx hy => (g2.2 i x y hx hy).1))
  ·simp only [Instr.build, Sem.run_bind, h9, Result.andThen_ok, run_underlying hd, hm]
   have : z.cells.toList.toArray = z.cells := by simp
   rw [this] at g1
   rw [g1]
   rfl
  ·intro u hu
   obtain ⟨j, hj⟩ := List.getElem?_of_mem hu
   have hjl : j < cs.length := by rw [g2.1]; exact (List.getElem?_eq_some_iff.1 hj).1
   exact (g2.2 j _ u (List.getElem?_eq_getElem hjl) hj).2


end
end Go.Proofs.YtdcljlafookliaaDoor.AB

namespace Go.Proofs.YtdcljlafookliaaDoor.AB
open Go

section
variable {P : Program} {tt : TT} {Mine : Mn} {G : Gh} {s : St} {a : Act} {w : World} {c : Xd}

theorem set_same {X : XH} {h : Nat} {o : XO} (ho : X.f h = some o) : X.set h o = X := by
 unfold XH.set
 congr 1
 funext k
 split
 ·rename_i e; subst e; exact ho.symm
 ·rfl

theorem over_nil {α : Type} (l : List α) (k : Nat) : over l k [] = l := by
 simp [over]

theorem setX_same {X : XH} (hX : hpX s.hp = some X) : setX s X = s := by
 unfold hpX at hX
 split at hX
 ·rename_i X' r hh
  cases hX
  cases s with
  | mk tm hp T =>
   simp only [setX, St.setO] at hh ⊢
   subst hh
   rfl
 ·cases hX

theorem Res.xover {X : XH} (hi : Inv Mine G s.hp s.T w) (hX : hpX s.hp = some X) {m : SlH} {ar l' : List c.T} (har : X.arr c m.h = some ar) {b ct : Nat} (hloc : G.loc 0 m.h = some (some b, c.sz, ct))
  {cur : Array Value} {el : TypeId} (hb : w.heap[b]? = some (.cells cur el (0, 0))) (hm : Mine b) (hpr : G.priv b) (hrow : Row G c ar cur.toList) {k : Nat} {news : List Value} (hnews : Row G c l' news)
  (hfit : m.off + k + l'.length ≤ ar.length) {r : Result Value} {x : TV} {y : Value}
  (hr : r = .ok y (w.setRow b (cur.toList.take ((m.off + k) * c.sz) ++ news ++ cur.toList.drop ((m.off + k) * c.sz + news.length)).toArray))
  (hxy : TR G x y) {K : TV → St → Prop} (hk : K x (setX s (X.over c (some m) k l'))) : Res Mine G s w r K := by
 have hov : X.over c (some m) k l' = X.set m.h (.arr c (over ar (m.off + k) l')) := by simp only [XH.over, har]
 rw [hov] at hk
 have hlen : (over ar (m.off + k) l').length = ar.length := by simp [over]; omega
 have hct : ct = ar.length := by
  obtain ⟨b', cur', el', k1, _⟩ := (hi.xarr (hpX_get hX) har).row
  rw [hloc] at k1; cases k1; rfl
 refine Res.xset hi hX (arr_get har) hloc hr (Stp.setRow hm) (fun k' hk' => setRow_other w b k' _ hk') ?_ hxy hk
 exact Row.xr (by rw [hlen, ← hct]; exact hloc) hm hpr (setRow_heap w b cur _ el _ hb) (by simpa using hrow.over hnews (m.off + k))

theorem slOf_R {x : TV} {y : Option SlH} {u : Value} (h : slOf c x = some y) (hx : TR G x u) : TR G (.sl c y) u := by
 unfold slOf at h
 split at h
 ·split at h
  ·rename_i e
   cases h
   have := of_decide_eq_true e
   subst this
   exact hx
  ·cases h
 ·cases h
  cases hx with | v _ _ hx =>
  cases hx
  exact .sl0 c _
 ·cases h

theorem xappend_core (htt : TTOK P tt) {t t2 ty e : Nat} {x : Option SlH} {u v : Value} {X : XH} {z : c.T} {l l' : List c.T} (hi : Inv Mine G s.hp s.T w) (hX : hpX s.hp = some X) (he : slT tt t = some e) (hz : elemX tt e c = some z)
  (hx : TR G (.sl c x) u) (hv : X.view c x = some l) (hroom : (slN x + l'.length) * (tt.at e).bytes ≤ room)
  (hap : ∀ i zv, P.info? e = some i → i.zero = some zv → i.size = c.sz → i.bytes = (tt.at e).bytes → (∀ G, Row G c [z] zv.cells.toList) → zv.cells.size = c.sz → ∃ news, Ap P w t2 i zv l'.length v news ∧ Row G c l' news) {K : TV → St → Prop}
  (h : ∀ X' x', XApp X c z l l' x X' x' → K (.sl c x') (setX s X')) : Res Mine G s w ((Builtin.append_ #[t, t2] ty #[u, v]).run P w) K := by
 have hE := elemX_spec htt hz
 obtain ⟨hd, _, _⟩ := slT_ok htt he
 obtain ⟨i, zv, h1, h2, h3, h4, h5, h6⟩ := hE.row
 obtain ⟨news, hsr, hnrow⟩ := hap i zv h1 h2 h3 h4 (fun G => (h6 w).2 G) h5
 have hnl : news.length = l'.length * c.sz := by rw [hsr.size, h3]
 have hbr : (slN x + l'.length) * i.bytes ≤ 140737488355328 := by rw [h4]; exact hroom
 have hcpos : 0 < c.sz := by rw [hE.sz]; exact hE.pos
 have hbp : 0 < i.bytes := by rw [h4]; exact hE.bpos
 have h63 : slN x + l'.length ≤ 140737488355328 := Nat.le_trans (Nat.le_mul_of_pos_right _ hbp) hbr
 -- a new array
 have grow : ∀ (olds : List Value) (ao : Option Addr) (cap : Nat), u = .slice ao (slN x) cap → slC x = cap → slN x ≤ cap → ¬ slN x + l'.length ≤ cap → Row G c l olds → l.length = slN x →
   (∀ w' : World, w'.heap = w.heap → (Builtin.firstCells i.size (slN x) (.slice ao (slN x) cap)).run P w' = .ok olds.toArray w') → Res Mine G s w ((Builtin.append_ #[t, t2] ty #[u, v]).run P w) K := by
  intro olds ao cap hu hcap hlc hfit ho1 ho2 ho3
  subst hu
  have hr := run_ap_grow (P := P) (ty := ty) (w := w) (ao := ao) (olds := olds) hd h1 h2 hsr hfit hbp (by rw [h3]; exact hcpos) ho3 hlc h63 (growslice_fits (by omega) hbr)
  have hgcl := grownCap_ge w (slN x + l'.length) cap e
  generalize grownCap w (slN x + l'.length) cap e = gc at hr hgcl
  have hrow : Row G c (l ++ l' ++ List.replicate (gc - (slN x + l'.length)) z) (olds.toArray ++ news.toArray ++ Builtin.zeroCells zv.cells (gc - (slN x + l'.length))).toList := by
   have := (ho1.append hnrow).append (zero_row ((h6 w).2 G) h5 hcpos (gc - (slN x + l'.length)))
   simpa using this
  refine Res.xarr hi hX (w0 := w.drew) rfl hr ⟨rfl, rfl, rfl, Nat.le_refl _, fun _ _ => rfl⟩ hrow (fun G' _ _ hln => ?_)
   (h _ _ (.grow x (gc - (slN x + l'.length)) (by omega)))
  have hll : (l ++ l' ++ List.replicate (gc - (slN x + l'.length)) z).length = gc := by simp; omega
  rw [hll] at hln
  have e1 : slN x + l'.length + (gc - (slN x + l'.length)) = gc := by omega
  rw [e1]
  exact TR.sl (G := G') ⟨X.n, 0, slN x + l'.length, gc⟩ c _ gc 0 hln hgcl (by simp) (fun _ => by simp)
 cases hx with
 | sl0 _ ao =>
  simp only [XH.view, Option.some.injEq] at hv
  subst hv
  by_cases hfit : 0 + l'.length ≤ 0
  ·have hl0 : l' = [] := List.eq_nil_of_length_eq_zero (by omega)
   have hr := run_ap_zero (P := P) (ty := ty) (w := w) hd h1 (z := zv) (v := v) (news := news) (by rw [hl0] at hsr; exact hsr) (ao := ao) (sLen := 0) (sCap := 0) (Nat.le_refl _)
   have := h X none (.none hl0)
   rw [setX_same hX] at this
   exact Res.same hi hr this (.sl0 c _)
  ·exact grow [] ao 0 rfl rfl (Nat.le_refl _) hfit Row.nil rfl (fun w' _ => by cases ao <;> simp [Builtin.firstCells, loadCells, loadCellsFrom, slN])
 | sl m _ b ct o hloc q1 q2 ho =>
  obtain ⟨ar, cur, el, k1, k2, k3, k4, k5, k6, k7, k8, k9⟩ := view_row hi (hpX_get hX) hv hloc q1 q2
  by_cases hfit : m.len + l'.length ≤ m.cap
  ·have hk := h _ _ (.room m hfit)
   by_cases hl0 : l' = []
   ·have hr := run_ap_zero (P := P) (ty := ty) (w := w) hd h1 (z := zv) (v := v) (news := news) (by rw [hl0] at hsr; exact hsr) (ao := some ⟨b, o, none⟩) (sLen := m.len) (sCap := m.cap) q1
    subst hl0
    have hov : X.over c (some m) m.len [] = X := by
     simp only [XH.over, k1, over_nil]
     exact set_same (arr_get k1)
    rw [hov, setX_same hX] at hk
    exact Res.same hi hr hk (.sl ⟨m.h, m.off, m.len, m.cap⟩ c b ct o hloc q1 q2 ho)
   ·have hlp : 0 < l'.length := List.length_pos_iff.2 hl0
    have := ho (by omega)
    subst this
    have hcur : cur.size = ar.length * c.sz := by simpa using k8.1
    have hle := Nat.mul_le_mul_right c.sz (show m.off + m.len + l'.length ≤ ar.length by omega)
    rw [Nat.add_mul, Nat.add_mul] at hle
    have hr := run_ap_room (P := P) (ty := ty) hd h1 h2 hsr k7 hfit (by rw [h3, hnl, hcur]; exact hle)
    rw [h3, ← Nat.add_mul] at hr
    refine Res.xover hi hX k1 hloc k7 k5 k6 k8 (k := m.len) hnrow (by omega) hr ?_ hk
    exact .sl ⟨m.h, m.off, m.len + l'.length, m.cap⟩ c b ct _ hloc hfit q2 (fun _ => rfl)
  ·refine grow ((cur.toList.drop (m.off * c.sz)).take (m.len * c.sz)) (some ⟨b, o, none⟩) m.cap rfl rfl q1 hfit k9 k4 (fun w' hw' => ?_)
   rw [h3]
   show (Builtin.firstCells c.sz m.len _).run P w' = _
   rcases Nat.eq_zero_or_pos m.len with e0 | e0
   ·rw [e0]; simp [Builtin.firstCells, loadCells, loadCellsFrom]
   ·have := ho (by omega)
    subst this
    simp only [Builtin.firstCells]
    have hlen : ((cur.toList.drop (m.off * c.sz)).take (m.len * c.sz)).length = m.len * c.sz := by rw [k9.1, k4]
    refine Eq.trans (by rw [hlen]) (load_row (P := P) (w := w) (el := el) k7 (fun j y hy => ?_) hw')
    rw [List.getElem?_take] at hy
    split at hy
    ·rw [List.getElem?_drop] at hy
     simpa using hy
    ·cases hy

theorem xappend_sound (htt : TTOK P tt) {t t2 ty : Nat} (hok2 : (tt.at t2).ok = true) {x y : TV} {u v : Value} (hi : Inv Mine G s.hp s.T w) (hx : TR G x u) (hy : TR G y v) {K : TV → St → Prop}
  (h : xappend tt c t t2 x y s K) : Res Mine G s w ((Builtin.append_ #[t, t2] ty #[u, v]).run P w) K := by
 unfold xappend at h
 split at h
 case h_2 => exact h.elim
 rename_i e x X he hsrc hsl hX
 split at h
 case h_2 => exact h.elim
 rename_i z hz
 obtain ⟨l, l', hv, hs, hroom, h⟩ := h
 obtain ⟨d2, hd2, hd2n⟩ := isSrcK_und htt hok2 hsrc
 obtain ⟨news, hsr, hnrow, _⟩ := srcX_sound (P := P) hi hX hs hy
 exact xappend_core htt hi hX he hz (slOf_R hsl hx) hv hroom (fun i zv h1 h2 h3 h4 h5 h6 => ⟨news, .inl ⟨d2, hd2, hd2n, by rw [h3]; exact hsr⟩, hnrow⟩) h

theorem xappendZ_sound (htt : TTOK P tt) {t t2 ty : Nat} (hok2 : (tt.at t2).ok = true) {x y : TV} {u v : Value} (hi : Inv Mine G s.hp s.T w) (hx : TR G x u) (hy : TR G y v) {K : TV → St → Prop}
  (h : xappendZ tt c t (tt.at t2).k x y s K) : Res Mine G s w ((Builtin.append_ #[t, t2] ty #[u, v]).run P w) K := by
 unfold xappendZ at h
 split at h
 case h_2 => exact h.elim
 rename_i e k n X he hk hX
 split at h
 case h_2 => exact h.elim
 rename_i x z hsl hz
 obtain ⟨h0, l, hv, hroom, h⟩ := h
 have hE := elemX_spec htt hz
 obtain ⟨d2, hd2, hkk⟩ := (htt t2 hok2).und
 rw [hk] at hkk
 simp only [KOK] at hkk
 subst hkk
 cases hy with | v _ _ hy =>
 cases hy
 have hnn : ((n.toNat : Nat) : Int) = n := Int.toNat_of_nonneg h0
 have hcpos : 0 < c.sz := by rw [hE.sz]; exact hE.pos
 refine xappend_core htt hi hX he hz (slOf_R hsl hx) hv (by rw [List.length_replicate]; exact hroom) (fun i zv h1 h2 h3 h4 h5 h6 => ?_) h
 have hrow := zero_row (h5 G) h6 hcpos n.toNat
 refine ⟨_, .inr ⟨k, hd2, by rw [List.length_replicate, hnn], ?_, by rw [h4]; exact hE.bpos, by rw [List.length_replicate], ?_, ?_⟩, hrow⟩
 ·rw [List.length_replicate, h4]
  exact Nat.le_trans (Nat.mul_le_mul_right _ (Nat.le_add_left _ _)) hroom
 ·rw [List.length_replicate, Array.length_toList, size_zeroCells, h6, h3]
 ·intro q hq
  exact hrow.one q hq

theorem xappendA_sound (htt : TTOK P tt) {t t2 ty : Nat} (hok2 : (tt.at t2).ok = true) {x y : TV} {u v : Value} (hi : Inv Mine G s.hp s.T w) (hx : TR G x u) (hy : TR G y v) {K : TV → St → Prop}
  (h : xappendA tt c t t2 x y s K) : Res Mine G s w ((Builtin.append_ #[t, t2] ty #[u, v]).run P w) K := by
 unfold xappendA at h
 split at h
 ·exact xappend_sound htt hok2 hi hx hy h
 ·exact xappendZ_sound htt hok2 hi hx hy h

theorem xappendV_sound (htt : TTOK P tt) {t t2 ty : Nat} (hok2 : (tt.at t2).ok = true) {d : Cd} {l : List d.T} {tk : Tok} {y : TV} {u v : Value} (hi : Inv Mine G s.hp s.T w) (hx : TR G (.v (.list d l tk)) u) (hy : TR G y v)
  {K : TV → St → Prop} (h : xappendV tt t t2 d l tk y s K) : Res Mine G s w ((Builtin.append_ #[t, t2] ty #[u, v]).run P w) K := by
 unfold xappendV at h
 split at h
 case h_2 => exact h.elim
 rename_i e d2 y X he hsrc hX
 split at h
 case h_2 => exact h.elim
 rename_i hc hd
 have hc := of_decide_eq_true hc
 have hd := of_decide_eq_true hd
 subst hd
 obtain ⟨l', hv, hown, hroom, h⟩ := h
 simp only [dif_pos] at h
 obtain ⟨news, hsr, hnrow, _⟩ := srcX_sound (P := P) (c := .pure d2) (y := .sl (.pure d2) y) (l' := l') hi hX (by simp [srcX, hv]) hy
 refine append_listS htt hok2 he hsrc hc (news := news) hsr (fun j q hq => ?_) hi hx hown hroom h
 obtain ⟨i, k, x, rfl, hk, hx', hq'⟩ := flat_split d2 l' hq
 obtain ⟨u, q1, q2, q3⟩ := hnrow.2 i x hx' k (.v q) (by simp [Xd.cells, hq'])
 exact ⟨u, q1, by cases q2; assumption⟩

theorem xcopy_sound (htt : TTOK P tt) {t t2 ty : Nat} {x y : TV} {u v : Value} (hi : Inv Mine G s.hp s.T w) (hx : TR G x u) (hy : TR G y v) {K : TV → St → Prop}
  (h : xcopy tt t x y s K) : Res Mine G s w ((Builtin.copy_ #[t, t2] ty #[u, v]).run P w) K := by
 unfold xcopy at h
 split at h
 case h_2 => exact h.elim
 rename_i e c x X he hX
 split at h
 case h_2 => exact h.elim
 rename_i hfit
 obtain ⟨hoke, hsz, hag⟩ := fitX_spec hfit
 obtain ⟨hd, _, _⟩ := slT_ok htt he
 have hse := run_sizeOf htt hoke w
 rw [← hsz] at hse
 obtain ⟨dv, l, hdv, hl, h⟩ := h
 have hk := Res.name h
 obtain ⟨news, hsr, hnrow, hpre⟩ := srcX_sound (P := P) hi hX hl hy
 cases hx with
 | sl0 _ ao =>
  have hov : X.over c none 0 (l.take (slN none)) = X := rfl
  rw [hov, setX_same hX] at hk
  have hf := hpre w 0 rfl (Nat.zero_le _)
  have hr : (Builtin.copy_ #[t, t2] ty #[.slice ao 0 0, v]).run P w = .ok (.int .i64 0) w := by
   simp only [Builtin.copy_, List.getElem?_toArray, List.getElem?_cons_zero, List.getElem?_cons_succ, Sem.run_bind, run_underlying hd, Result.andThen_ok, hsr.len, hse, hf, Nat.min_zero,
    show Nat.min l.length 0 = 0 from Nat.min_zero _, Sem.run_pure, goInt]
   cases ao with
   | none => rfl
   | some a => simp [storeCells]
  refine Res.same hi hr ?_ (.v _ _ (.int .i64 0))
  simpa [slN] using hk
 | sl m _ b ct o hloc q1 q2 ho =>
  have hsl : slN (some m) = m.len := rfl
  rw [hsl] at hk
  have hf := hpre w (min l.length m.len) rfl (Nat.min_le_left _ _)
  have hnl := hsr.size
  have hrun : ∀ w', (storeCells ⟨b, o, none⟩ (news.take (min l.length m.len * c.sz))).run P w = .ok () w' →
    (Builtin.copy_ #[t, t2] ty #[.slice (some ⟨b, o, none⟩) m.len m.cap, v]).run P w = .ok (.int .i64 (min l.length m.len : Nat)) w' := by
   intro w' hw'
   simp only [Builtin.copy_, List.getElem?_toArray, List.getElem?_cons_zero, List.getElem?_cons_succ, Sem.run_bind, run_underlying hd, Result.andThen_ok, hsr.len, hse,
    show Nat.min l.length m.len = min l.length m.len from rfl, hf, hw', Sem.run_pure, goInt]
  obtain ⟨ar, cur, el, k1, k2, k3, k4, k5, k6, k7, k8, k9⟩ := view_row hi (hpX_get hX) hdv hloc q1 q2
  have hnt : Row G c (l.take m.len) (news.take (min l.length m.len * c.sz)) := by
   have := hnrow.take m.len
   have e1 : news.take (m.len * c.sz) = news.take (min l.length m.len * c.sz) := by
    rcases Nat.le_total l.length m.len with q | q
    ·rw [Nat.min_eq_left q, ← hnl, List.take_length, List.take_of_length_le]
     rw [hnl]; exact Nat.mul_le_mul_right _ q
    ·rw [Nat.min_eq_right q]
   rw [← e1]; exact this
  have hcur : cur.size = ar.length * c.sz := by simpa using k8.1
  have hmin : min l.length m.len ≤ m.len := Nat.min_le_right _ _
  have hle := Nat.mul_le_mul_right c.sz (show m.off + min l.length m.len ≤ ar.length by omega)
  rw [Nat.add_mul] at hle
  have hntl : (news.take (min l.length m.len * c.sz)).length = min l.length m.len * c.sz := by rw [hnt.1, List.length_take, Nat.min_comm]
  rcases Nat.eq_zero_or_pos (min l.length m.len) with e0 | e0
  ·rw [e0] at hrun hk
   have hl0 : l.take m.len = [] := List.eq_nil_of_length_eq_zero (by rw [List.length_take, Nat.min_comm]; exact e0)
   have hov : X.over c (some m) 0 (l.take m.len) = X := by
    simp only [XH.over, k1, hl0, over_nil]
    exact set_same (arr_get k1)
   rw [hov, setX_same hX] at hk
   exact Res.same hi (hrun w (by simp [storeCells])) hk (.v _ _ (.int _ _))
  ·have := ho (by omega)
   subst this
   have hst := run_storeCells_at P b (m.off * c.sz) el (news.take (min l.length m.len * c.sz)) 0 cur w k7 (by rw [hntl]; omega) hnt.one
   refine Res.xover hi hX k1 hloc k7 k5 k6 k8 (k := 0) hnt (by rw [List.length_take, Nat.min_comm]; omega) (hrun _ hst) (.v _ _ (.int _ _)) hk |>.run ?_
   rfl

theorem xclear_sound (htt : TTOK P tt) {t ty : Nat} {x : TV} {u : Value} (hi : Inv Mine G s.hp s.T w) (hx : TR G x u) {K : TV → St → Prop}
  (h : xclear tt t x s K) : Res Mine G s w ((Builtin.clear_ #[t] ty #[u]).run P w) K := by
 unfold xclear at h
 split at h
 case h_2 => exact h.elim
 rename_i e c x X he hX
 split at h
 case h_2 => exact h.elim
 rename_i z hz
 have hE := elemX_spec htt hz
 obtain ⟨hd, _, _⟩ := slT_ok htt he
 obtain ⟨i, zv, h1, h2, h3, h4, h5, h6⟩ := hE.row
 have hcpos : 0 < c.sz := by rw [hE.sz]; exact hE.pos
 obtain ⟨dv, hdv, h⟩ := h
 have hk := Res.name h
 have htup : TR G (.v (.tup [])) (.tuple #[]) := .v _ _ (.tup [] [] rfl (fun i x y hx => by simp at hx))
 cases hx with
 | sl0 _ ao =>
  have hov : X.over c none 0 (List.replicate (slN none) z) = X := rfl
  rw [hov, setX_same hX] at hk
  refine Res.same hi ?_ hk htup
  cases ao <;> simp [Builtin.clear_, run_underlying hd]
 | sl m _ b ct o hloc q1 q2 ho =>
  have hsl : slN (some m) = m.len := rfl
  rw [hsl] at hk
  obtain ⟨ar, cur, el, k1, k2, k3, k4, k5, k6, k7, k8, k9⟩ := view_row hi (hpX_get hX) hdv hloc q1 q2
  rcases Nat.eq_zero_or_pos m.len with e0 | e0
  ·have hov : X.over c (some m) 0 (List.replicate m.len z) = X := by
    simp only [XH.over, k1, e0, List.replicate_zero, over_nil]
    exact set_same (arr_get k1)
   rw [hov, setX_same hX] at hk
   refine Res.same hi ?_ hk htup
   rw [e0]
   simp [Builtin.clear_, run_underlying hd]
  ·have := ho (by omega)
   subst this
   have hrow := zero_row ((h6 w).2 G) h5 hcpos m.len
   have hlen : (Builtin.zeroCells zv.cells m.len).toList.length = m.len * c.sz := by rw [hrow.1, List.length_replicate]
   have hcur : cur.size = ar.length * c.sz := by simpa using k8.1
   have hle := Nat.mul_le_mul_right c.sz (show m.off + m.len ≤ ar.length by omega)
   rw [Nat.add_mul] at hle
   have hst := run_storeCells_at P b (m.off * c.sz) el (Builtin.zeroCells zv.cells m.len).toList 0 cur w k7 (by rw [hlen]; omega) hrow.one
   have hr : ∀ w', (storeCells ⟨b, m.off * c.sz, none⟩ (Builtin.zeroCells zv.cells m.len).toList).run P w = .ok () w' →
     (Builtin.clear_ #[t] ty #[.slice (some ⟨b, m.off * c.sz, none⟩) m.len m.cap]).run P w = .ok (.tuple #[]) w' := by
    intro w' hst
    obtain ⟨q, hq⟩ : ∃ q, m.len = q + 1 := ⟨m.len - 1, by omega⟩
    simp only [Builtin.clear_, List.getElem?_toArray, List.getElem?_cons_zero, Sem.run_bind, run_underlying hd, Result.andThen_ok]
    rw [hq] at hst ⊢
    simp only [Sem.run_bind, (h6 w).1, Result.andThen_ok, hst, Sem.run_pure]
   refine Res.xover hi hX k1 hloc k7 k5 k6 k8 (k := 0) hrow (by rw [List.length_replicate]; omega) (hr _ hst) htup hk

end
end Go.Proofs.YtdcljlafookliaaDoor.AB

namespace Go.Proofs.YtdcljlafookliaaDoor.AB
open Go

section
variable {P : Program} {tt : TT} {Mine : Mn} {G : Gh} {s : St} {a : Act} {w : World} {c : Xd}

theorem cells_whole {b : c.T} {y : Value} (h1 : y.cells.size = c.sz) (h2 : ∀ (j : Nat) q, (c.cells b)[j]? = some q → ∃ u, y.cells[j]? = some u ∧ TR G q u ∧ u.oneCell' = true)
  (ha : c.isAgg = true → ∃ vs, y = .agg vs) (hn : c.isAgg = false → y.cells = #[y]) : TR G (c.enc b) y := by
 cases hag : c.isAgg with
 | true =>
  obtain ⟨vs, rfl⟩ := ha hag
  rw [Xd.enc_agg hag]
  have hl := Xd.length_cells c b
  have hs : vs.size = c.sz := by simpa [Value.cells] using h1
  have := TR.mkAgg (G := G) (l := c.cells b) (vs := vs.toList) (by simp [hl, hs]) (fun u hu => by
   obtain ⟨j, hj⟩ := List.getElem?_of_mem hu
   have hjl : j < (c.cells b).length := by rw [hl, ← hs]; simpa using (List.getElem?_eq_some_iff.1 hj).1
   obtain ⟨u', q1, q2, q3⟩ := h2 j _ (List.getElem?_eq_getElem hjl)
   have : vs[j]? = some u := by simpa using hj
   rw [show (Value.agg vs).cells = vs from rfl, this] at q1
   cases q1; exact q3) (fun j q u hq hu => by
   obtain ⟨u', q1, q2, q3⟩ := h2 j q hq
   have : vs[j]? = some u := by simpa using hu
   rw [show (Value.agg vs).cells = vs from rfl, this] at q1
   cases q1; exact q2)
  simpa using this
 | false =>
  have hf := Xd.enc_flat hag b
  obtain ⟨u, q1, q2, _⟩ := h2 0 (c.enc b) (by rw [hf]; rfl)
  rw [hn hag] at q1
  simp at q1
  subst q1
  exact q2

theorem dec_whole {x : TV} {b : c.T} (h : c.dec x = some b) (ha : x.isAg = c.isAgg) {y : Value} (hxy : TR G x y) : TR G (c.enc b) y := by
 obtain ⟨h1, h2⟩ := Xd.dec_full h hxy
 refine cells_whole h1 h2 (fun hag => ?_) (fun hag => ?_)
 ·rw [hag] at ha
  cases x <;> first
   | (simp [TV.isAg] at ha; done)
   | skip
  ·rename_i x
   cases x <;> first
    | (simp [TV.isAg] at ha; done)
    | skip
   cases hxy with | v _ _ hxy =>
   cases hxy; exact ⟨_, rfl⟩
  ·cases hxy; exact ⟨_, rfl⟩
 ·rw [hag] at ha
  have hdef : ∀ v, y = .agg v → False := by
   intro v e
   subst e
   cases hxy with
   | v _ _ hv =>
    cases hv with
    | agg => simp [TV.isAg] at ha
    | undef =>
     obtain ⟨hlen, hrel⟩ := Xd.dec_spec h
     have hc0 : (c.cells b)[0]? = some ((c.cells b)[0]'(by rw [Xd.length_cells, ← hlen]; simp [TV.cells, V.cells])) := List.getElem?_eq_getElem _
     obtain ⟨z, k1, k2⟩ := hrel 0 _ hc0
     have hz : z = .v .undef := by simpa [TV.cells, V.cells] using k1.symm
     subst hz
     have k3 := k2 G (.tuple #[]) (TR.undef _)
     have k4 := k3.one (Xd.cells_one c b _ (List.mem_of_getElem? hc0))
     cases k4
   | agg => simp [TV.isAg] at ha
  cases y <;> first
   | rfl
   | exact (hdef _ rfl).elim

theorem vrZT_agg {x : V} {y : Value} (h : vrZT x y = true) : (x.isAgg = true → ∃ vs, y = .agg vs) ∧ (x.isAgg = false → y.cells = #[y]) := by
 unfold vrZT at h
 split at h
 ·exact ⟨fun _ => ⟨_, rfl⟩, fun e => by simp [V.isAgg] at e⟩
 ·rename_i hno
  refine ⟨fun e => ?_, fun e => ?_⟩
  ·cases x <;> first
    | (simp [V.isAgg] at e; done)
    | skip
   cases y <;> first
    | exact ⟨_, rfl⟩
    | simp [vrZ] at h
  ·cases y <;> first
    | rfl
    | (cases x <;> simp [vrZ] at h)

theorem zdec_whole (htt : TTOK P tt) {e : Nat} (hok : (tt.at e).ok = true) (hsz : c.sz = (tt.at e).size) {z : c.T} (hz : c.zdec (tt.at e).zero = some z) (ha : (tt.at e).zero.isAgg = c.isAgg) :
  ∃ zv, (∀ w : World, (zeroValue e).run P w = .ok zv w) ∧ ∀ G, TR G (c.enc z) zv := by
 obtain ⟨i, zv, h1, h2, h3, h4, h5, h6⟩ := zdec_row htt hok hsz hz
 obtain ⟨i', zv', k1, k2, k3⟩ := (htt e hok).vz
 rw [h1] at k1; cases k1
 rw [h2] at k2; cases k2
 obtain ⟨q1, q2⟩ := vrZT_agg k3
 refine ⟨zv, fun w => (h6 w).1, fun G => cells_whole h5 (fun j q hq => ?_) (fun hag => q1 (by rw [ha]; exact hag)) (fun hag => q2 (by rw [ha]; exact hag))⟩
 obtain ⟨u, r1, r2⟩ := ((h6 default).2 G).2 0 z rfl j q hq
 exact ⟨u, by rw [Nat.zero_mul, Nat.zero_add] at r1; simpa using r1, r2⟩

theorem mapT_ok (htt : TTOK P tt) {t e : Nat} {kc : Cd} (h : mapT tt t kc = some e) :
  ∃ kt, P.underlying t = some (.map kt e) ∧ (tt.at kt).ok = true ∧ (tt.at e).ok = true ∧ keyKind (tt.at kt).k kc = true := by
 unfold mapT at h
 split at h
 case h_2 => cases h
 rename_i kt et hok hk
 split at h
 case h_2 => cases h
 rename_i hb
 cases h
 simp only [Bool.and_eq_true] at hb
 obtain ⟨d, hd, hkk⟩ := (htt t hok).und
 rw [hk] at hkk
 obtain ⟨rfl, _⟩ := hkk
 exact ⟨kt, hd, hb.1.1, hb.1.2, hb.2⟩

theorem xmakeMap_sound (htt : TTOK P tt) {t : Nat} {kc : Cd} {vc : Xd} {K : TV → St → Prop} (h : xmakeMap tt kc vc t s K) (hi : Inv Mine G s.hp s.T w) :
  Res Mine G s w ((Instr.makeMap t none).run P w) K := by
 unfold xmakeMap at h
 split at h
 case h_2 => exact h.elim
 rename_i e X he hX
 split at h
 case h_2 => exact h.elim
 have hr : (Instr.makeMap t none).run P w = .ok (.map (some w.heap.size)) (w.alloc (.map #[] 0)) := by simp [Instr.makeMap]
 refine Res.xadd hi hX (sz := 1) (ct := 1) rfl hr (.refl _ _) (fun G' hf hl hln _ hm hp hb => ?_) (fun G' _ _ hln => .mp X.n kc vc _ 1 1 hln) (Res.name h)
 exact ⟨w.heap.size, 1, 1, hln, hm, hp, #[], 0, hb, rfl, by simp, MapKept.stamped_empty 0⟩

theorem Res.xmap {X : XH} (hi : Inv Mine G s.hp s.T w) (hX : hpX s.hp = some X) {h : Nat} {kc : Cd} {vc : Xd} {es es' : List (kc.T × vc.T)} (hes : X.mp kc vc h = some es) {b sz ct : Nat}
  (hloc : G.loc 0 h = some (some b, sz, ct)) {ents ents' : Array MapEntry} {ck ck' : Nat} (hb : w.heap[b]? = some (.map ents ck)) (hm : Mine b) (hpr : G.priv b) {r : Result Value} {x : TV} {y : Value}
  (hr : r = .ok y { w with heap := w.heap.setIfInBounds b (.map ents' ck') }) (hlen : es'.length = ents'.size)
  (hp : ∀ (j : Nat) e m, es'[j]? = some e → ents'[j]? = some m → VR G (kc.enc e.1) m.key ∧ TR G (vc.enc e.2) m.val) (hst : MapKept.Stamped ents' ck') (hxy : TR G x y) {K : TV → St → Prop} (hk : K x (setX s (X.set h (.map kc vc es')))) :
  Res Mine G s w r K := by
 have hrl := heap_lt hb
 refine Res.xset (o' := .map kc vc es') hi hX (mp_get hes) hloc hr ⟨rfl, rfl, rfl, by simp, fun k hk => ?_⟩ (fun k hk => ?_) ⟨b, sz, ct, hloc, hm, hpr, ents', ck', ?_, hlen, hp, hst⟩ hxy hk
 ·show (w.heap.setIfInBounds b (.map ents' ck'))[k]? = _
  rw [Array.getElem?_setIfInBounds, if_neg (fun (e : b = k) => hk (e ▸ hm))]
 ·show (w.heap.setIfInBounds b (.map ents' ck'))[k]? = _
  rw [Array.getElem?_setIfInBounds, if_neg (fun (e : b = k) => hk e.symm)]
 ·show (w.heap.setIfInBounds b (.map ents' ck'))[b]? = _
  rw [Array.getElem?_setIfInBounds, if_pos rfl, if_pos hrl]

theorem keyVal_inj {c : Cd} (hk : c.isKey' = true) {a b : c.T} (h : keyVal c a = keyVal c b) : a = b := by
 cases c <;> first
  | (cases hk; done)
  | skip
 ·simpa [keyVal] using h
 ·simpa [keyVal] using h
 ·simpa [keyVal] using h

theorem keq_self {c : Cd} (hk : c.isKey' = true) (a : c.T) : c.keq a a = true := by
 cases c <;> first
  | (cases hk; done)
  | skip
 ·simp [Cd.keq]
 ·simp [Cd.keq]
 ·simp [Cd.keq]

theorem xmapUpdate_sound (htt : TTOK P tt) {t : Nat} {m k x : TV} {mv kv xv : Value} {K : TV → St → Prop} (h : xmapUpdate tt t m k x s K) (hi : Inv Mine G s.hp s.T w)
  (hm : TR G m mv) (hk : TR G k kv) (hxv : TR G x xv) : Res Mine G s w (unitR ((Instr.mapUpdate t mv kv xv).run P w)) K := by
 unfold xmapUpdate at h
 split at h
 case h_2 => exact h.elim
 rename_i kc vc x0 X hX
 split at h
 case h_2 => exact h.elim
 rename_i e a b he ha hb
 split at h
 case h_2 => exact h.elim
 rename_i hfit
 simp only [Bool.and_eq_true, beq_iff_eq] at hfit
 obtain ⟨hh, es, rfl, hes, h⟩ := h
 have hK := Res.name h
 obtain ⟨kt, hd, hok1, hok2, hkk⟩ := mapT_ok htt he
 have hik := keyKind_isKey hkk
 have hkv := keyOf_R hik ha hk
 subst hkv
 obtain ⟨d, hdk, hko⟩ := (htt kt hok1).und
 obtain ⟨r, sz, ct, l1, l2, l3, ents, ck, l4, l5, l6, lst⟩ := hi.xmp (hpX_get hX) hes
 cases hm with | mp _ _ _ b' sz' ct' hloc =>
 have hloc' := hloc
 rw [hloc] at l1; cases l1
 have hg : (getObj r).run P w = .ok (.map ents ck) w := by simp [getObj, Sem.run, l4]
 have hfs := findNow_spec (G := G) (β := vc.T) hik (sameNow_key hko hkk) a es ents.toList 0 (by simpa using l5) (fun j e m he hm => (l6 j e m he (by simpa using hm)).1)
 have hval := dec_whole hb hfit.2 hxv
 have finish : ∀ (ents' : Array MapEntry) (ck' : Nat) (es' : List (kc.T × vc.T)), (Instr.mapUpdate t (.map (some r)) (keyVal kc a) xv).run P w = .ok () { w with heap := w.heap.setIfInBounds r (.map ents' ck') } →
   es'.length = ents'.size → (∀ (j : Nat) e m, es'[j]? = some e → ents'[j]? = some m → VR G (kc.enc e.1) m.key ∧ TR G (vc.enc e.2) m.val) → MapKept.Stamped ents' ck' →
   K (.v .undef) (setX s (X.set hh (.map kc vc es'))) → Res Mine G s w (unitR ((Instr.mapUpdate t (.map (some r)) (keyVal kc a) xv).run P w)) K := by
  intro ents' ck' es' hr hl hp hst hK
  exact Res.xmap hi hX hes hloc' l4 l2 l3 (y := Go.undef) (by rw [hr]; rfl) hl hp hst (TR.undef _) hK
 cases hf : mfind (kc.keq a) es with
 | none =>
  rw [hf] at hfs
  refine finish (ents.push { key := keyVal kc a, val := xv, born := ck }) (ck + 1) _ ?_ ?_ ?_ ?_ hK
  ·simp only [Instr.mapUpdate, Sem.run_bind, run_underlying hd, Result.andThen_ok, hg, run_checkKey htt hok1 hkk, run_findKey htt hok1 hdk hfs.1, run_setObj l4 (by intro c e f h; cases h)]
  ·rw [mset_none hfs.2]; simp [l5]
  ·intro j e m he hm
   rw [mset_none hfs.2, List.getElem?_append] at he
   rw [Array.getElem?_push] at hm
   split at he
   ·rename_i hj
    rw [if_neg (by omega)] at hm
    exact l6 j e m he hm
   ·rename_i hj
    have hje : j = ents.size := by
     have := (List.getElem?_eq_some_iff.1 he).1
     simp at this; omega
    subst hje
    rw [if_pos rfl] at hm
    cases hm
    rw [← l5, Nat.sub_self] at he
    simp at he
    subst he
    exact ⟨key_enc hik a, hval⟩
  ·refine MapKept.stamped_push lst fun x hx e => ?_
   obtain ⟨j, hj⟩ := List.getElem?_of_mem hx
   have hj' : ents[j]? = some x := by simpa using hj
   have hjl := (Array.getElem?_eq_some_iff.1 hj').1
   have he : es[j]? = some (es[j]'(by omega)) := List.getElem?_eq_getElem (by omega)
   have h1 := key_R hik (l6 j _ x he hj').1
   have h2 := hfs.2 _ (List.getElem_mem (show j < es.length by omega))
   rw [e] at h1
   have h3 := keyVal_inj hik h1
   rw [← h3, keq_self hik] at h2
   cases h2
 | some q =>
  rw [hf] at hfs
  obtain ⟨j, m, k', f1, f2, f3, f4, f5⟩ := hfs
  have hka := keq_eq hik f4
  subst hka
  have hmk : m.key = keyVal kc a := key_R hik (l6 j _ m f2 (by simpa using f3)).1
  have f3' : ents[j]? = some m := by simpa using f3
  have hjl := (Array.getElem?_eq_some_iff.1 f3').1
  refine finish (ents.modify j fun e => { e with key := keyVal kc a, val := xv }) ck _ ?_ ?_ ?_ ?_ hK
  ·have e1 : ((ents[j]?).map (·.key)).getD (keyVal kc a) = keyVal kc a := by
    rw [f3']; simp [hmk]
   have e2 : (Instr.keyThatStays (keyVal kc a) (keyVal kc a)).run P w = .ok (keyVal kc a) w := by
    simp [Instr.keyThatStays, sameBits_key hik]
   simp only [Instr.mapUpdate, Sem.run_bind, run_underlying hd, Result.andThen_ok, hg, run_checkKey htt hok1 hkk, run_findKey htt hok1 hdk f1, Nat.zero_add, e1, e2,
    run_setObj l4 (by intro c e f h; cases h)]
  ·rw [mset_some f2 f4 f5]; simp [l5]
  ·intro j' e m' he hm'
   rw [mset_some f2 f4 f5, List.getElem?_set] at he
   rw [Array.getElem?_modify] at hm'
   by_cases hjj : j = j'
   ·subst hjj
    rw [if_pos rfl, if_pos (by omega)] at he
    cases he
    rw [if_pos rfl, f3'] at hm'
    cases hm'
    exact ⟨key_enc hik a, hval⟩
   ·rw [if_neg hjj] at he hm'
    exact l6 j' e m' he hm'
  ·refine MapKept.stamped_modify lst j _ (fun _ _ => rfl) fun e _ he => ?_
   rw [f3'] at he; cases he
   exact hmk.symm

theorem mdel_none {α β : Type} {eq : α → Bool} : ∀ {es : List (α × β)}, (∀ e ∈ es, eq e.1 = false) → mdel eq es = es
 | [], _ => rfl
 | (a, b') :: es, h => by
  have h0 : eq a = false := h (a, b') (by simp)
  have ih := mdel_none (es := es) (eq := eq) (fun e he => h e (by simp [he]))
  simp only [mdel, h0, ih]

theorem mdel_some {α β : Type} {eq : α → Bool} {k' : α} {b' : β} : ∀ {es : List (α × β)} {j : Nat}, es[j]? = some (k', b') → eq k' = true →
  (∀ j' e, j' < j → es[j']? = some e → eq e.1 = false) → mdel eq es = es.eraseIdx j
 | [], j, h, _, _ => by simp at h
 | (a, c) :: es, 0, h, h1, _ => by
  simp at h
  obtain ⟨rfl, rfl⟩ := h
  simp [mdel, h1]
 | (a, c) :: es, j + 1, h, h1, h2 => by
  have h0 : eq a = false := h2 0 (a, c) (by omega) rfl
  simp only [mdel, h0, List.eraseIdx_cons_succ]
  rw [mdel_some (es := es) (j := j) (by simpa using h) h1 (fun j' e hj he => h2 (j' + 1) e (by omega) (by simpa using he))]

theorem xdelete_sound (htt : TTOK P tt) {t t2 ty : Nat} {m k : TV} {mv kv : Value} {K : TV → St → Prop} (h : xdelete tt t m k s K) (hi : Inv Mine G s.hp s.T w)
  (hm : TR G m mv) (hk : TR G k kv) : Res Mine G s w ((Builtin.delete_ #[t, t2] ty #[mv, kv]).run P w) K := by
 unfold xdelete at h
 split at h
 case h_2 => exact h.elim
 rename_i kc vc x0 X hX
 split at h
 case h_2 => exact h.elim
 rename_i e a he ha
 obtain ⟨hh, es, rfl, hes, h⟩ := h
 have hK := Res.name h
 obtain ⟨kt, hd, hok1, hok2, hkk⟩ := mapT_ok htt he
 have hik := keyKind_isKey hkk
 have hkv := keyOf_R hik ha hk
 subst hkv
 obtain ⟨d, hdk, hko⟩ := (htt kt hok1).und
 obtain ⟨r, sz, ct, l1, l2, l3, ents, ck, l4, l5, l6, lst⟩ := hi.xmp (hpX_get hX) hes
 cases hm with | mp _ _ _ b' sz' ct' hloc =>
 have hloc' := hloc
 rw [hloc] at l1; cases l1
 have hg : (getObj r).run P w = .ok (.map ents ck) w := by simp [getObj, Sem.run, l4]
 have hfs := findNow_spec (G := G) (β := vc.T) hik (sameNow_key hko hkk) a es ents.toList 0 (by simpa using l5) (fun j e m he hm => (l6 j e m he (by simpa using hm)).1)
 have htup : TR G (.v (.tup [])) (.tuple #[]) := .v _ _ (.tup [] [] rfl (fun i x y hx => by simp at hx))
 have finish : ∀ (ents' : Array MapEntry) (es' : List (kc.T × vc.T)), (Builtin.delete_ #[t, t2] ty #[.map (some r), keyVal kc a]).run P w = .ok (.tuple #[]) { w with heap := w.heap.setIfInBounds r (.map ents' ck) } →
   es'.length = ents'.size → (∀ (j : Nat) e m, es'[j]? = some e → ents'[j]? = some m → VR G (kc.enc e.1) m.key ∧ TR G (vc.enc e.2) m.val) → MapKept.Stamped ents' ck →
   K (.v (.tup [])) (setX s (X.set hh (.map kc vc es'))) → Res Mine G s w ((Builtin.delete_ #[t, t2] ty #[.map (some r), keyVal kc a]).run P w) K := by
  intro ents' es' hr hl hp hst hK
  exact Res.xmap hi hX hes hloc' l4 l2 l3 hr hl hp hst htup hK
 cases hf : mfind (kc.keq a) es with
 | none =>
  rw [hf] at hfs
  rw [mdel_none hfs.2] at hK
  refine finish ents es ?_ l5 l6 lst hK
  simp only [Builtin.delete_, List.getElem?_toArray, List.getElem?_cons_zero, List.getElem?_cons_succ, Sem.run_bind, run_underlying hd, Result.andThen_ok, hg, run_checkKey htt hok1 hkk,
   run_findKey htt hok1 hdk hfs.1, run_setObj l4 (by intro c e f h; cases h), Sem.run_pure]
 | some q =>
  rw [hf] at hfs
  obtain ⟨j, m, k', f1, f2, f3, f4, f5⟩ := hfs
  rw [mdel_some f2 f4 f5] at hK
  have f3' : ents[j]? = some m := by simpa using f3
  have hjl := (Array.getElem?_eq_some_iff.1 f3').1
  refine finish (ents.eraseIdxIfInBounds j) _ ?_ ?_ ?_ (MapKept.stamped_erase lst j) hK
  ·simp only [Builtin.delete_, List.getElem?_toArray, List.getElem?_cons_zero, List.getElem?_cons_succ, Sem.run_bind, run_underlying hd, Result.andThen_ok, hg, run_checkKey htt hok1 hkk,
    run_findKey htt hok1 hdk f1, Nat.zero_add, run_setObj l4 (by intro c e f h; cases h), Sem.run_pure]
  ·rw [Array.eraseIdxIfInBounds_eq, dif_pos hjl]
   rw [List.length_eraseIdx, if_pos (by omega), Array.size_eraseIdx]; omega
  ·intro j' e m' he hm'
   rw [Array.eraseIdxIfInBounds_eq, dif_pos hjl] at hm'
   rw [List.getElem?_eraseIdx] at he
   rw [Array.getElem?_eraseIdx] at hm'
   split at he
   ·rename_i hlt
    rw [if_pos hlt] at hm'
    exact l6 j' e m' he hm'
   ·rename_i hlt
    rw [if_neg hlt] at hm'
    exact l6 (j' + 1) e m' he hm'

theorem lookTV_R {ok b : Bool} {x : TV} {v : Value} (h : TR G x v) : TR G (lookTV ok x b) (if ok then .tuple #[v, .bool b] else v) := by
 cases ok with
 | false => exact h
 | true =>
  exact TR.mkTup (l := [x, .v (.bool b)]) (vs := [v, .bool b]) rfl (fun i z u hz hu => by
   match i with
   | 0 => simp at hz hu; subst hz hu; exact h
   | 1 => simp at hz hu; subst hz hu; exact .v _ _ (.bool _)
   | i + 2 => simp at hz)

theorem xlookup_sound (htt : TTOK P tt) {t : Nat} {m k : TV} {mv kv : Value} {ok : Bool} {K : TV → St → Prop} (h : xlookup tt t m k ok s K) (hi : Inv Mine G s.hp s.T w)
  (hm : TR G m mv) (hk : TR G k kv) : Res Mine G s w ((Instr.lookup t mv kv ok).run P w) K := by
 unfold xlookup at h
 split at h
 case h_2 => exact h.elim
 rename_i kc vc x0 X hX
 split at h
 case h_2 => exact h.elim
 rename_i e a he ha
 split at h
 case h_2 => exact h.elim
 rename_i z hfit hz
 simp only [Bool.and_eq_true, beq_iff_eq] at hfit
 obtain ⟨hoke, hsz, hag⟩ := fitX_spec hfit.1
 obtain ⟨es, hes, hsome, hnone⟩ := h
 obtain ⟨kt, hd, hok1, hok2, hkk⟩ := mapT_ok htt he
 have hik := keyKind_isKey hkk
 have hkv := keyOf_R hik ha hk
 subst hkv
 obtain ⟨d, hdk, hko⟩ := (htt kt hok1).und
 obtain ⟨zv, z1, z2⟩ := zdec_whole htt hoke hsz hz hfit.2
 have main : ∀ (ents : Array MapEntry), es.length = ents.size → (∀ (j : Nat) e m, es[j]? = some e → ents[j]? = some m → VR G (kc.enc e.1) m.key ∧ TR G (vc.enc e.2) m.val) →
   (mv = .map none ∧ ents = #[] ∨ ∃ r ck, mv = .map (some r) ∧ (getObj r).run P w = .ok (.map ents ck) w) → Res Mine G s w ((Instr.lookup t mv (keyVal kc a) ok).run P w) K := by
  intro ents l5 l6 hget
  have hfs := findNow_spec (G := G) (β := vc.T) hik (sameNow_key hko hkk) a es ents.toList 0 (by simpa using l5) (fun j e m he hm => (l6 j e m he (by simpa using hm)).1)
  have hrun : ∀ (rr : Option (Nat × Value)) (v : Value) (b : Bool), (Instr.findKey kt (keyVal kc a) ents.toList).run P w = .ok rr w → (rr = none → v = zv ∧ b = false) → (∀ i u, rr = some (i, u) → v = u ∧ b = true) →
    (Instr.lookup t mv (keyVal kc a) ok).run P w = .ok (if ok then .tuple #[v, .bool b] else v) w := by
   intro rr v b h1 h2 h3
   rcases hget with ⟨rfl, rfl⟩ | ⟨r, ck, rfl, hg⟩
   ·simp only [Instr.lookup, Sem.run_bind, run_underlying hd, Result.andThen_ok, Sem.run_pure, run_checkKey htt hok1 hkk, h1]
    cases rr with
    | none => obtain ⟨rfl, rfl⟩ := h2 rfl; simp only [Sem.run_bind, z1, Result.andThen_ok, Sem.run_pure]
    | some q => obtain ⟨i, u⟩ := q; obtain ⟨rfl, rfl⟩ := h3 i u rfl; rfl
   ·simp only [Instr.lookup, Sem.run_bind, run_underlying hd, hg, Result.andThen_ok, Sem.run_pure, run_checkKey htt hok1 hkk, h1]
    cases rr with
    | none => obtain ⟨rfl, rfl⟩ := h2 rfl; simp only [Sem.run_bind, z1, Result.andThen_ok, Sem.run_pure]
    | some q => obtain ⟨i, u⟩ := q; obtain ⟨rfl, rfl⟩ := h3 i u rfl; rfl
  cases hf : mfind (kc.keq a) es with
  | some p =>
   rw [hf] at hfs
   obtain ⟨j, m, k', f1, f2, f3, f4, f5⟩ := hfs
   exact Res.same hi (hrun _ m.val true (run_findKey htt hok1 hdk f1) (fun e => by cases e) (fun i u e => by cases e; exact ⟨rfl, rfl⟩)) (hsome p hf) (lookTV_R (l6 j _ m f2 (by simpa using f3)).2)
  | none =>
   rw [hf] at hfs
   exact Res.same hi (hrun _ zv false (run_findKey htt hok1 hdk hfs.1) (fun e => ⟨rfl, rfl⟩) (fun i u e => by cases e)) (hnone hf) (lookTV_R (z2 G))
 cases hm with
 | mp0 =>
  simp only [XH.vmp, Option.some.injEq] at hes
  subst hes
  exact main #[] rfl (fun j e m he => by simp at he) (.inl ⟨rfl, rfl⟩)
 | mp hh _ _ b' sz' ct' hloc =>
  obtain ⟨r, sz, ct, l1, l2, l3, ents, ck, l4, l5, l6, lst⟩ := hi.xmp (hpX_get hX) hes
  rw [hloc] at l1; cases l1
  have hg : (getObj b').run P w = .ok (.map ents ck) w := by simp [getObj, Sem.run, l4]
  exact main ents l5 l6 (.inr ⟨b', ck, rfl, hg⟩)

theorem Rel.evx (h : Rel Mine G s a w) (ty : Nat) (x : Operand) : TR G (s.evx tt ty x) (a.eval x) := by
 unfold St.evx
 split
 ·exact .v _ _ .nils
 ·exact h.ev ty x

theorem PR_mapx (hr : Rel Mine G s a w) (ty : Nat) : ∀ (l : List (Nat × Operand)), PR G (l.map fun (i, x) => (i, s.evx tt ty x)) (l.map fun (i, x) => (i, a.eval x))
 | [] => trivial
 | (i, x) :: l => ⟨rfl, hr.evx ty x, PR_mapx hr ty l⟩

theorem argsx_R (hr : Rel Mine G s a w) (ty : Nat) (l : List Operand) : (∀ (i : Nat) x y, (l.map (s.evx tt ty))[i]? = some x → (l.map a.eval)[i]? = some y → TR G x y) := by
 intro i x y hx hy
 rw [List.getElem?_map] at hx hy
 cases hl : l[i]? with
 | none => rw [hl] at hx; cases hx
 | some o => rw [hl] at hx hy; cases hx; cases hy; exact hr.evx ty o

theorem xbuiltin_sound (htt : TTOK P tt) {md : Md} {b : Builtin} {args : List TV} {ts : List Nat} {vs : List Value} {ty : TypeId} {cs : Array Bool} {K : TV → St → Prop} (h : xbuiltin tt md b args ts s K)
  (hok : ts.all (fun t => (tt.at t).ok) = true) (hi : Inv Mine G s.hp s.T w) (hl : args.length = vs.length) (hp : ∀ (i : Nat) x y, args[i]? = some x → vs[i]? = some y → TR G x y) :
  ∃ S : Sem Value, builtin b ts.toArray ty cs vs.toArray = (do pure (.value (← S))) ∧ Res Mine G s w (S.run P w) K := by
 unfold xbuiltin at h
 split at h
 ·rename_i x t
  match vs, hl with
  | [v], _ => exact ⟨Builtin.len_ #[t] ty #[v], rfl, xlen_sound htt (by simpa using hok) h hi (hp 0 x v rfl rfl)⟩
 ·rename_i x t
  match vs, hl with
  | [v], _ => exact ⟨Builtin.cap_ #[t] ty #[v], rfl, xcap_sound htt (by simpa using hok) h hi (hp 0 x v rfl rfl)⟩
 ·rename_i x y t t2
  match vs, hl with
  | [u, v], _ =>
   simp only [List.all_cons, List.all_nil, Bool.and_true, Bool.and_eq_true] at hok
   split at h
   ·rename_i c
    exact ⟨Builtin.append_ #[t, t2] ty #[u, v], rfl, xappendA_sound htt hok.2 hi (hp 0 x u rfl rfl) (hp 1 y v rfl rfl) h⟩
   ·split at h
    ·rename_i c l tk
     exact ⟨Builtin.append_ #[t, t2] ty #[u, v], rfl, xappendV_sound htt hok.2 hi (hp 0 _ u rfl rfl) (hp 1 y v rfl rfl) h⟩
    ·exact h.elim
 ·rename_i x y t t2
  match vs, hl with
  | [u, v], _ => exact ⟨Builtin.copy_ #[t, t2] ty #[u, v], rfl, xcopy_sound htt hi (hp 0 x u rfl rfl) (hp 1 y v rfl rfl) h⟩
 ·rename_i x t
  match vs, hl with
  | [v], _ => exact ⟨Builtin.clear_ #[t] ty #[v], rfl, xclear_sound htt hi (hp 0 x v rfl rfl) h⟩
 ·rename_i x y t t2
  match vs, hl with
  | [u, v], _ => exact ⟨Builtin.delete_ #[t, t2] ty #[u, v], rfl, xdelete_sound htt h hi (hp 0 x u rfl rfl) (hp 1 y v rfl rfl)⟩
 ·exact h.elim

theorem xmkI_sound (htt : TTOK P tt) {t : Nat} {x : TV} {u : Value} {K : TV → St → Prop} (h : xmkI tt t x s K) (hi : Inv Mine G s.hp s.T w) (hx : TR G x u) : Res Mine G s w ((Instr.makeInterface t u).run P w) K := by
 unfold xmkI at h
 split at h
 case h_2 => exact h.elim
 rename_i a hc hd
 simp only [Bool.and_eq_true] at hc
 obtain ⟨⟨⟨hok, hst⟩, hag⟩, hxa⟩ := hc
 obtain ⟨d, hu, hk⟩ := (htt t hok).und
 have hw := dec_whole hd (by rw [hxa]; exact hag.symm) hx
 cases hw with | v _ _ hw =>
 refine Res.same hi (y := .iface t u) ?_ h (.ifc t _ _ hw)
 unfold TK.isStr at hst
 split at hst
 ·rename_i fs hkk
  rw [hkk] at hk
  obtain ⟨fields, rfl, _⟩ := hk
  simp [Instr.makeInterface, Sem.run_bind, run_underlying hu w]
 ·cases hst

theorem xassert_sound (htt : TTOK P tt) {xt t : Nat} {ok : Bool} {x : TV} {u : Value} {K : TV → St → Prop} (h : xassert tt t ok x s K) (hi : Inv Mine G s.hp s.T w) (hx : TR G x u) : Res Mine G s w ((Instr.typeAssert u xt t ok).run P w) K := by
 unfold xassert at h
 split at h
 case h_2 => exact h.elim
 rename_i e hc he
 simp only [Bool.and_eq_true] at hc
 obtain ⟨hok, hst⟩ := hc
 obtain ⟨d, hd, hk⟩ := (htt t hok).und
 obtain ⟨fields, rfl⟩ : ∃ fields, d = .struct fields := by
  unfold TK.isStr at hst
  split at hst
  ·rename_i fs hkk
   rw [hkk] at hk
   obtain ⟨fields, h1, _⟩ := hk
   exact ⟨fields, h1⟩
  ·cases hst
 obtain ⟨i, z, h1, h2, h3, h4, h5, h6, h7, h8, hz⟩ := run_zero htt hok w
 have fails : (∀ y, e ≠ some (t, y)) → (∀ (st dy : Option Go.TypeId) (ms : String), (Instr.typeAssert u xt t ok).run P w = (if ok then pure (.tuple #[z, .bool false]) else runtimePanic (.typeAssertion st dy t ms) : Sem Value).run P w → Res Mine G s w ((Instr.typeAssert u xt t ok).run P w) K) := fun hne st dy ms hr => by
  have h := h.2 hne
  cases ok with
  | false => exact h.elim
  | true =>
   refine Res.same hi (y := .tuple #[z, .bool false]) (by rw [hr]; simp [Sem.run_pure]) h ?_
   refine .v _ _ (.tup _ [z, .bool false] rfl fun i x y hx hy => ?_)
   match i, hx, hy with
   | 0, hx, hy => cases hx; cases hy; exact h5 G
   | 1, hx, hy => cases hx; cases hy; exact .ff
   | n + 2, hx, hy => simp at hx
 have ud := run_underlying (P := P) hd w
 have hx' : (e = none ∧ u = .nilIface) ∨ ∃ t' y v, e = some (t', y) ∧ u = .iface t' v ∧ VR G (y.1.enc y.2) v := by
  unfold ifOf at he
  split at he
  ·cases he
   cases hx with
   | ifc0 => exact .inl ⟨rfl, rfl⟩
   | ifc t' x v hv => exact .inr ⟨t', x, v, rfl, rfl, hv⟩
  ·cases he
   cases hx with | v _ _ hx =>
   cases hx
   exact .inl ⟨rfl, rfl⟩
  ·cases he
 rcases hx' with ⟨rfl, rfl⟩ | ⟨t', y, v, rfl, rfl, hv⟩
 ·refine fails (fun y q => by cases q) (some xt) none "" ?_
  simp only [Instr.typeAssert, Sem.run_bind, ud, Result.andThen_ok]
  cases ok
  ·rfl
  ·simp [Sem.run_bind, hz, Sem.run_pure]
 ·by_cases ht : t' = t
  ·subst ht
   obtain ⟨a, ha, hk2⟩ := h.1 y rfl
   subst ha
   cases ok with
   | false =>
    refine Res.same hi (y := v) ?_ hk2 (.v _ _ hv)
    simp only [Instr.typeAssert, Sem.run_bind, ud, Result.andThen_ok]
    simp [Sem.run_pure]
   | true =>
    refine Res.same hi (y := .tuple #[v, .bool true]) ?_ hk2 ?_
    ·simp only [Instr.typeAssert, Sem.run_bind, ud, Result.andThen_ok]
     simp [Sem.run_pure]
    ·refine .v _ _ (.tup _ [v, .bool true] rfl fun i x y hx hy => ?_)
     match i, hx, hy with
     | 0, hx, hy => cases hx; cases hy; exact hv
     | 1, hx, hy => cases hx; cases hy; exact .tt
     | n + 2, hx, hy => simp at hx
  ·refine fails (fun y q => ht (by cases q; rfl)) (some xt) (some t') "" ?_
   simp only [Instr.typeAssert, Sem.run_bind, ud, Result.andThen_ok, ht, if_false]
   cases ok
   ·rfl
   ·simp [Sem.run_bind, hz, Sem.run_pure]

theorem xaop_sound (htt : TTOK P tt) {md : Md} {o : Oper} {K : TV → St → Prop} {next : Act → World → Prop} {Q : Exit → Act → World → Prop}
  (h : xaop tt md o s K) (hty : ((opTys o.op).all fun t => (tt.at t).ok) = true) (hr : Rel Mine G s a w) (hn : Behind Mine G s w o.dst K next) : o.wp P a w next Q := by
 unfold xaop at h
 cases hop : o.op <;> rw [hop] at h hty <;> dsimp only at h
 case assign x =>
  split at h
  case h_2 => exact h.elim
  rename_i c
  have hx := hr.evx (tt := tt) 0 x
  unfold xnil at h
  split at h <;> first | exact h.elim | skip
  ·rename_i hz
   rw [hz] at hx
   refine wp_pure hr (y := a.eval x) (by simp [execOp, hop]) (x := .sl _ none) ?_ h hn
   cases hx with | v _ _ hx =>
   generalize a.eval x = u at hx
   cases hx; exact .sl0 _ _
  ·rename_i hz
   rw [hz] at hx
   refine wp_pure hr (y := a.eval x) (by simp [execOp, hop]) (x := .ref none _ 0 []) ?_ h hn
   cases hx with | v _ _ hx =>
   generalize a.eval x = u at hx
   cases hx; exact .ref0 _ _ _
  ·rename_i hz
   rw [hz] at hx
   refine wp_pure hr (y := a.eval x) (by simp [execOp, hop]) (x := .mp _ _ none) ?_ h hn
   cases hx with | v _ _ hx =>
   generalize a.eval x = u at hx
   cases hx; exact .mp0 _ _
 case alloc e =>
  split at h
  case h_2 => exact h.elim
  exact wp_value hr (by simp [execOp, hop]) (xalloc_sound htt hr.inv h) hn
 case box e x =>
  split at h
  case h_2 => exact h.elim
  exact wp_value hr (S := Instr.box e (a.eval x)) (by simp [execOp, hop]) (xbox_sound (e := e) hr.inv (hr.evx e x) h) hn
 case build t parts =>
  exact wp_value hr (S := Instr.build t (parts.map fun (i, x) => (i, a.eval x))) (by simp [execOp, hop]) (xbuild_sound htt (by simpa [opTys] using hty) h hr.inv (by rw [Array.toList_map]; exact PR_mapx hr 0 parts.toList)) hn
 case buildSlice t len parts =>
  split at h
  case h_2 => exact h.elim
  split at h
  ·exact wp_value hr (S := Instr.buildSlice t 0 (parts.map fun (i, x) => (i, a.eval x))) (by simp [execOp, hop]) (xlit0_sound htt h hr.inv (by rw [Array.toList_map]; exact PR_mapx hr 0 parts.toList)) hn
  ·exact wp_value hr (S := Instr.buildSlice t _ (parts.map fun (i, x) => (i, a.eval x))) (by simp [execOp, hop]) (xlit_sound htt h hr.inv (by rw [Array.toList_map]; exact PR_mapx hr 0 parts.toList)) hn
 case load t x => exact wp_value hr (by simp [execOp, hop]) (xload_sound htt h hr.inv (hr.ev 0 x)) hn
 case store t x y => exact wp_unit hr (by simp [execOp, hop]) (xstore_sound htt h hr.inv (hr.ev 0 x) (hr.evx t y)) hn
 case nilCheck x =>
  obtain ⟨x', h1, h2, h3⟩ := xnilCheck_sound h (hr.ev 0 x)
  refine wp_pure hr ?_ h2 h1 hn
  simp only [execOp, hop]
  split <;> first | rfl | skip
  all_goals (rename_i hx; rw [hx] at h3; cases h3)
 case binOp op t x y yt =>
  split at h
  case h_2 => exact h.elim
  rename_i hc
  split at h
  ·exact wp_value hr (by simp [execOp, hop]) (xbinL_sound (xo := x) htt hc h hr.inv (hr.ev 0 x) (hr.evx t y)) hn
  ·exact wp_value hr (by simp [execOp, hop]) (xbin_sound (xo := x) htt hc h hr.inv (hr.ev 0 x) (hr.evx t y)) hn
 case convert src dst x =>
  simp only [opTys, List.all_cons, List.all_nil, Bool.and_true, Bool.and_eq_true] at hty
  exact wp_value hr (by simp [execOp, hop]) (xconvert_sound htt hty.1 hty.2 h hr.inv (hr.ev src x)) hn
 case makeMap t r =>
  cases r with
  | some r => exact h.elim
  | none =>
   dsimp only at h
   split at h
   case h_2 => exact h.elim
   exact wp_value hr (S := Instr.makeMap t none) (by simp [execOp, hop]) (xmakeMap_sound htt h hr.inv) hn
 case makeSlice t l c =>
  split at h
  case h_2 => exact h.elim
  exact wp_value hr (by simp [execOp, hop]) (xmake_sound htt h hr.inv (hr.ev 0 l) (hr.ev 0 c)) hn
 case slice t x lo hi mx => exact wp_value hr (by simp [execOp, hop]) (xslice_sound htt h hr.inv (hr.ev 0 x) (opt_R hr lo) (opt_R hr hi) (opt_R hr mx)) hn
 case fieldAddr t x f => exact wp_value hr (by simp [execOp, hop]) (xfieldAddr_sound htt (by simpa [opTys] using hty) h hr.inv (hr.ev 0 x)) hn
 case indexAddr t x i => exact wp_value hr (by simp [execOp, hop]) (xindexAddr_sound htt h hr.inv (hr.ev 0 x) (hr.ev 0 i)) hn
 case lookup t m k ok => exact wp_value hr (by simp [execOp, hop]) (xlookup_sound htt h hr.inv (hr.ev 0 m) (hr.ev 0 k)) hn
 case mapUpdate t m k x => exact wp_unit hr (by simp [execOp, hop]) (xmapUpdate_sound htt h hr.inv (hr.ev 0 m) (hr.ev 0 k) (hr.evx 0 x)) hn
 case call c =>
  have hargs := argsx_R (tt := tt) hr 0 c.args.toList
  split at h
  case h_2 => exact h.elim
  rename_i b hcal
  simp only [opTys, hcal] at hty
  obtain ⟨S, h1, h2⟩ := xbuiltin_sound (ty := o.type) (cs := c.args.map fun | .const _ => true | _ => false) (vs := c.args.toList.map a.eval) htt h hty hr.inv (by simp) hargs
  refine wp_value hr (S := S) ?_ h2 hn
  have e1 : c.argTypes.toList.toArray = c.argTypes := by simp
  have e2 : (c.args.toList.map a.eval).toArray = c.args.map a.eval := by apply Array.ext'; simp
  rw [e1, e2] at h1
  rw [← h1]
  simp only [execOp, hop, resolve, hcal, pure_bind, invoke]
  rfl
 case makeInterface t x => exact wp_value hr (by simp [execOp, hop]) (xmkI_sound htt h hr.inv (hr.ev t x)) hn
 case typeAssert x xt t ok => exact wp_value hr (by simp [execOp, hop]) (xassert_sound (xt := xt) htt h hr.inv (hr.ev 0 x)) hn
 all_goals exact h.elim

theorem aop_sound (htt : TTOK P tt) {call : CallP} (hcs : CallS P call) {md : Md} {o : Oper} {K : TV → St → Prop} {next : Act → World → Prop} {Q : Exit → Act → World → Prop}
  (h : aop tt call md o s K) (hr : Rel Mine G s a w) (hn : Behind Mine G s w o.dst K next) : o.wp P a w next Q := by
 unfold aop at h
 split at h
 ·split at h
  ·rename_i hty
   exact xaop_sound htt h hty hr hn
  ·exact h.elim
 ·exact aop0_sound htt hcs h hr hn

end
end Go.Proofs.YtdcljlafookliaaDoor.AB

namespace Go.Proofs.YtdcljlafookliaaDoor.AB
open Go

section
variable {P : Program} {tt : TT} {Mine : Mn} {G : Gh} {s : St} {a : Act} {w : World}

theorem Rel.retag (h : Rel Mine G s a w) {t : Nat} {x : TV} (hx : TR G x (a.tmps.getD t Go.undef)) : Rel Mine G (s.put (some t) x) a w := by
 refine ⟨by simp [St.put, h.len], fun j y hy => ?_, h.defers, h.inv⟩
 simp only [St.put, List.getElem?_set] at hy
 split at hy
 ·rename_i e
  subst e
  split at hy
  ·cases hy; exact hx
  ·cases hy
 ·exact h.tm j y hy

theorem yielded_of {ops : Array Oper} {j t : Nat} (ht : (ops[j]?).bind (·.dst) = some t) {b : Bool} (hb : a.tmps.getD t Go.undef = .bool b) : yielded ops a.tmps j = some b := by
 unfold yielded
 rw [ht]
 have : a.tmps[t]? = some (.bool b) := by
  rw [Array.getD_eq_getD_getElem?] at hb
  cases h : a.tmps[t]? with
  | none => rw [h] at hb; simp [Go.undef] at hb
  | some v => rw [h] at hb; simp at hb; rw [hb]
 simp [this]

theorem yielded_gone {ops : Array Oper} {j t : Nat} (ht : (ops[j]?).bind (·.dst) = some t) (hb : a.tmps.getD t Go.undef = Go.undef) : yielded ops a.tmps j = none := by
 unfold yielded
 rw [ht, Option.bind_some]
 rw [Array.getD_eq_getD_getElem?] at hb
 cases h : a.tmps[t]? with
 | none => rfl
 | some y =>
  rw [h] at hb
  have hb : y = Go.undef := hb
  subst hb
  rfl

theorem TR.gone : TR G (.v (.tup [])) Go.undef := .v _ _ (.tup [] [] rfl fun i x y hx => by simp at hx)

theorem guard_sound {ops : Array Oper} {o : Oper} {run skip : St → Prop} (h : guardK ops s o.guard run skip) (hr : Rel Mine G s a w) :
  ∃ s1, Rel Mine G s1 a w ∧ s1.hp = s.hp ∧ s1.T = s.T ∧ ((Region.wanted o (yielded ops a.tmps) = true ∧ run s1) ∨ (Region.wanted o (yielded ops a.tmps) = false ∧ skip s1)) := by
 unfold guardK at h
 split at h
 ·rename_i hg
  exact ⟨s, hr, rfl, rfl, .inl ⟨by simp [Region.wanted, hg], h⟩⟩
 ·rename_i j want hg
  split at h
  case h_2 => exact h.elim
  rename_i t ht
  have hv := hr.ev (tt := []) 0 (.tmp t)
  simp only [St.ev, Act.eval] at hv
  split at h
  ·rename_i htt
   rw [htt] at hv
   have hb : a.tmps.getD t Go.undef = .bool true := by
    generalize a.tmps.getD t Go.undef = u at hv
    cases hv with | v _ _ hv => cases hv; rfl
   have hy := yielded_of ht hb
   refine ⟨s, hr, rfl, rfl, ?_⟩
   cases want
   ·exact .inr ⟨by simp [Region.wanted, hg, hy], h⟩
   ·exact .inl ⟨by simp [Region.wanted, hg, hy], h⟩
  ·rename_i htt
   rw [htt] at hv
   have hb : a.tmps.getD t Go.undef = .bool false := by
    generalize a.tmps.getD t Go.undef = u at hv
    cases hv with | v _ _ hv => cases hv; rfl
   have hy := yielded_of ht hb
   refine ⟨s, hr, rfl, rfl, ?_⟩
   cases want
   ·exact .inl ⟨by simp [Region.wanted, hg, hy], h⟩
   ·exact .inr ⟨by simp [Region.wanted, hg, hy], h⟩
  ·rename_i b htt
   rw [htt] at hv
   have hb : a.tmps.getD t Go.undef = .bool b := by
    generalize a.tmps.getD t Go.undef = u at hv
    cases hv with | v _ _ hv => cases hv; rfl
   have hy := yielded_of ht hb
   cases b
   ·have h := h.2 rfl
    refine ⟨s.put (some t) (.v .ff), hr.retag (by rw [hb]; exact .v _ _ .ff), rfl, rfl, ?_⟩
    cases want
    ·exact .inl ⟨by simp [Region.wanted, hg, hy], h⟩
    ·exact .inr ⟨by simp [Region.wanted, hg, hy], h⟩
   ·have h := h.1 rfl
    refine ⟨s.put (some t) (.v .tt), hr.retag (by rw [hb]; exact .v _ _ .tt), rfl, rfl, ?_⟩
    cases want
    ·exact .inr ⟨by simp [Region.wanted, hg, hy], h⟩
    ·exact .inl ⟨by simp [Region.wanted, hg, hy], h⟩
  ·rename_i htt
   rw [htt] at hv
   have hb : a.tmps.getD t Go.undef = Go.undef := by
    generalize a.tmps.getD t Go.undef = u at hv
    cases hv with
    | v _ _ hv =>
     cases hv with
     | tup _ vs hl h => cases vs with
      | nil => rfl
      | cons _ _ => simp at hl
   exact ⟨s, hr, rfl, rfl, .inr ⟨by simp [Region.wanted, hg, yielded_gone ht hb], h⟩⟩
  ·exact h.elim

theorem oper_monoQ {o : Oper} {a : Act} {w : World} {K K' : Act → World → Prop} {Q Q' : Exit → Act → World → Prop} (h : ∀ a w, K a w → K' a w) (hq : ∀ e a w, Q e a w → Q' e a w)
  (hh : o.wp P a w K Q) : o.wp P a w K' Q' := by
 unfold Oper.wp at *
 generalize (execOp a.eval o).run P w = r at *
 cases r with
 | ok n w' =>
  cases n <;> simp only [Oper.upon] at hh ⊢ <;>
   first
    | exact h _ _ hh
    | exact Calls.mono hh (fun e w'' he => by
      cases e <;> first
       | exact h _ _ he
       | exact hq _ _ _ he
       | exact (let ⟨a, w, q⟩ := he; ⟨a, w, hq _ _ _ q⟩))
    | exact Rows.mono hh (fun _ _ he => h _ _ he)
 | halt x w' => cases x <;> simp only [Oper.upon] at hh ⊢ <;> first | exact hq _ _ _ hh | exact hh

def Lift (Mine : Mn) (G : Gh) (h0 : Nat) (w : World) (Q : Exit → St → Prop) (e : Exit) (a' : Act) (w' : World) : Prop :=
 ∃ s' G', Q e s' ∧ Rel Mine G' s' a' w' ∧ Fz G G' ∧ Lc h0 G G' ∧ h0 ≤ s'.hp.length ∧ Stp Mine w w'

theorem Lift.of {h0 : Nat} {Q : Exit → St → Prop} {G1 : Gh} {w1 : World} (hf : Fz G G1) (hl : Lc h0 G G1) (hs : Stp Mine w w1) {e : Exit} {a' : Act} {w' : World}
  (h : Lift Mine G1 h0 w1 Q e a' w') : Lift Mine G h0 w Q e a' w' := by
 obtain ⟨s', G', h1, h2, h3, h4, h5, h6⟩ := h
 exact ⟨s', G', h1, h2, hf.trans h3, hl.trans h4, h5, hs.trans h6⟩

theorem awpL_sound (htt : TTOK P tt) {call : CallP} (hcs : CallS P call) {md : Mds} {rid h0 : Nat} {ops : Array Oper} {K : St → Prop} : ∀ (l : List Oper) (i : Nat) (s : St) (G : Gh) (a : Act) (w : World),
  awpL tt call md rid ops i l K s → Rel Mine G s a w → h0 ≤ s.hp.length → wpList P ops (Lift Mine G h0 w (seqK K (fun _ _ => False))) l a w
 | [], i, s, G, a, w, h, hr, hh => ⟨s, G, h, hr, .refl _, .refl _ _, hh, .refl _ _⟩
 | o :: l, i, s, G, a, w, h, hr, hh => by
  unfold awpL at h
  obtain ⟨s1, hr1, hp1, ht1, h⟩ := guard_sound h hr
  have mono : ∀ {G1 : Gh} {w1 : World}, Fz G G1 → Lc h0 G G1 → Stp Mine w w1 → ∀ {a1 : Act}, wpList P ops (Lift Mine G1 h0 w1 (seqK K (fun _ _ => False))) l a1 w1 →
    wpList P ops (Lift Mine G h0 w (seqK K (fun _ _ => False))) l a1 w1 := by
   intro G1 w1 f1 f2 f3 a1 hw
   have gen : ∀ (l : List Oper) (a1 : Act) (w2 : World), wpList P ops (Lift Mine G1 h0 w1 (seqK K (fun _ _ => False))) l a1 w2 → wpList P ops (Lift Mine G h0 w (seqK K (fun _ _ => False))) l a1 w2 := by
    intro l
    induction l with
    | nil => intro a1 w2 h; exact Lift.of f1 f2 f3 h
    | cons o l ih =>
     intro a1 w2 h
     unfold wpList at h ⊢
     split
     ·rename_i hwt
      rw [if_pos hwt] at h
      rcases h with h | ⟨h1, a0, w0, h2⟩
      ·refine .inl (oper_monoQ (fun a w h => ih a w h) (fun e a w h => Lift.of f1 f2 f3 h) h)
      ·exact .inr ⟨h1, a0, w0, Lift.of f1 f2 f3 h2⟩
     ·rename_i hwt
      rw [if_neg hwt] at h
      exact ih _ _ h
   exact gen l a1 w1 hw
  unfold wpList
  rcases h with ⟨hwt, h⟩ | ⟨hwt, h⟩
  ·rw [if_pos hwt]
   refine .inl (aop_sound htt hcs h hr1 (fun x s' G' a' w' hk htm hrel hf hl hlen hst => ?_))
   rw [hp1] at hl hlen
   refine mono hf (hl.mono hh) hst (awpL_sound htt hcs l (i + 1) _ G' a' w' hk hrel ?_)
   cases o.dst <;> exact Nat.le_trans hh hlen
  ·rw [if_neg (by rw [hwt]; exact Bool.false_ne_true)]
   have hrel := hr1.put (d := o.dst) (x := .v (.tup [])) (y := Go.undef) (s' := s1) TR.gone rfl hr1.inv (.refl _) (.refl _ _)
   refine awpL_sound htt hcs l (i + 1) _ G _ w h hrel ?_
   rw [← hp1] at hh
   cases o.dst <;> exact hh

end
end Go.Proofs.YtdcljlafookliaaDoor.AB

