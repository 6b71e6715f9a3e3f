/- Parts of the proof: an evaluator of code on plain values, and that it is right of the model. -/
import Derived.Test.YtaaedebknacheaaABc1
import Derived.Deep.LoopGhost
import Derived.Orders
import Derived.ChangeArms
import Derived.Below
set_option linter.unusedVariables false
set_option linter.unusedSimpArgs false
namespace Go.Proofs.Ytaaedebknacheaa.AB
open Go

theorem mset_none {α β : Type} {eq : α → Bool} {k : α} {b : β} : ∀ {es : List (α × β)}, (∀ e ∈ es, eq e.1 = false) → mset eq k b es = es ++ [(k, b)]
  | [], _ => rfl
  | (a, b') :: es, h => by
    have h0 : eq a = false := h (a, b') (by simp)
    simp only [mset, h0, List.cons_append]
    rw [mset_none (fun e he => h e (by simp [he]))]

theorem mset_some {α β : Type} {eq : α → Bool} {k k' : α} {b b' : β} : ∀ {es : List (α × β)} {j : Nat}, es[j]? = some (k', b') → eq k' = true →
    (∀ j' e, j' < j → es[j']? = some e → eq e.1 = false) → mset eq k b es = es.set j (k, b)
  | [], j, h, _, _ => by simp at h
  | (a, c) :: es, 0, h, h1, _ => by
    simp at h
    obtain ⟨rfl, rfl⟩ := h
    simp [mset, h1]
  | (a, c) :: es, j + 1, h, h1, h2 => by
    have h0 : eq a = false := h2 0 (a, c) (by omega) rfl
    simp only [mset, h0, List.set_cons_succ]
    rw [mset_some (by simpa using h) h1 (fun j' e hj he => h2 (j' + 1) e (by omega) (by simpa using he))]

section
variable {P : Program} {tt : TT} {Mine : Mn} {G : Gh} {s : St} {a : Act} {w : World}

theorem encT_full {c : Cd} {z : TV} {b : c.T} (hd : c.dec z.toV = some b) (ha : z.toV.isAgg = c.isAgg) {y : Value} (hz : TR G z y) : VR G (c.encT b z.tok) y := by
  have hc := encT_R hd hz
  obtain ⟨h1, h2⟩ := dec_size hd hz.toV
  have hcl := Cd.length_encT c b z.tok
  cases hca : c.isAgg with
  | true =>
    rw [hca] at ha
    have hv := hz.toV
    cases hzz : z.toV <;> rw [hzz] at ha hv <;> first | (cases ha; done) | skip
    cases hv with | agg _ vs hl ho hp =>
    have hen : c.encT b z.tok = .agg (c.encT b z.tok).cells := by
      cases c <;> first | (cases hca; done) | rfl
    rw [hen]
    refine .agg _ vs (by rw [hcl, ← h1]; simp [Value.cells]) ho (fun i p q hp' hq => ?_)
    obtain ⟨u, u1, u2⟩ := hc i p hp'
    have : (Value.agg vs.toArray).cells[i]? = vs[i]? := by simp [Value.cells]
    rw [this, hq] at u1
    cases u1; exact u2
  | false =>
    rw [hca] at ha
    have hone : (c.encT b z.tok).cells = [c.encT b z.tok] := by
      cases c <;> first | (cases hca; done) | rfl
    obtain ⟨u, u1, u2⟩ := hc 0 _ (by rw [hone]; rfl)
    have hy : y.cells = #[y] := by
      have hv := hz.toV
      have hnu : z.toV ≠ .undef := by
        intro e; rw [e] at hd; simp [Cd.dec] at hd
      cases hzz : z.toV <;> rw [hzz] at ha hv hnu <;> first | (cases ha; done) | skip
      all_goals first | exact absurd rfl hnu | (cases hv; rfl)
    rw [hy] at u1
    simp at u1
    subst u1
    exact u2

theorem sameBits_key {c : Cd} (hk : c.isKey' = true) (x : c.T) : Instr.sameBits 10000 (keyVal c x) (keyVal c x) = true := by
  cases c <;> first | (cases hk; done) | skip
  · simp [keyVal, Instr.sameBits]
  · simp [keyVal, Instr.sameBits]
  · show (List.toArray x == List.toArray x) = true
    simp

theorem keq_eq {c : Cd} (hk : c.isKey' = true) {x y : c.T} (h : c.keq x y = true) : x = y := by
  cases c <;> first | (cases hk; done) | (simpa [Cd.keq] using h)

theorem key_enc {c : Cd} (hk : c.isKey' = true) (x : c.T) : VR G (c.enc x) (keyVal c x) := by
  cases c <;> first | (cases hk; done) | exact .int _ _ | exact .bool _ | exact .str _

theorem run_setObj {r : Nat} {o o' : Obj} (h : w.heap[r]? = some o) (hc : ∀ c e f, o ≠ .cells c e f) : (Go.setObj r o').run P w = .ok () { w with heap := w.heap.setIfInBounds r o' } := by
  simp only [Go.setObj, Sem.run, h]

theorem mapUpdate_sound (htt : TTOK P tt) {t : Nat} {m k x : TV} {mv kv xv : Value} {K : TV → St → Prop} (h : mapUpdateK tt t m k x s K) (hi : Inv Mine G s.hp s.T w)
    (hm : TR G m mv) (hk : TR G k kv) (hxv : TR G x xv) : Res Mine G s w (unitR ((Instr.mapUpdate t mv kv xv).run P w)) K := by
  unfold mapUpdateK at h
  split at h
  case h_2 => exact h.elim
  rename_i kc vc i hmc
  split at h
  case h_2 => exact h.elim
  rename_i kc' vc' es hh
  split at h
  case h_2 => exact h.elim
  rename_i a b h1 h2 hx hb hagg
  have h1 := of_decide_eq_true h1
  have h2 := of_decide_eq_true h2
  subst h1 h2
  have hagg := eq_of_beq hagg
  obtain ⟨kt, et, hd, hok1, hok2, hcok, hkk, hvc, hme⟩ := mapCodes_ok htt hmc
  have hik := keyKind_isKey hkk
  have hkv := keyOf_R hik hx hk
  subst hkv
  obtain ⟨d, hdk, hko⟩ := (htt kt hok1).und
  have hh' := hp_get hh
  obtain ⟨r, sz, ct, l1, l2, l3, ents, ck, l4, l5, l6⟩ := hi.objs i _ hh'
  cases hm with | mapr _ b' sz' ct' hloc =>
  have hloc' := hloc
  rw [hloc] at l1; cases l1
  have hg : (getObj r).run P w = .ok (.map ents ck) w := by simp [getObj, Sem.run, l4]
  have hfs := findNow_spec (G := G) (β := vc'.T × Tok) hik (sameNow_key hko hkk) a es ents.toList 0 (by simpa using l5) (fun j e m he hm => (l6 j e m he (by simpa using hm)).1)
  have hval := encT_full hb hagg hxv
  have hrl := heap_lt l4
  have finish : ∀ (ents' : Array MapEntry) (ck' : Nat) (es' : List (kc'.T × vc'.T × Tok)), (Instr.mapUpdate t (.map (some r)) (keyVal kc' a) xv).run P w = .ok () { w with heap := w.heap.setIfInBounds r (.map ents' ck') } →
      es'.length = ents'.size → (∀ (j : Nat) e m, es'[j]? = some e → ents'[j]? = some m → VR G (kc'.enc e.1) m.key ∧ VR G (vc'.encT e.2.1 e.2.2) m.val) →
      K (.v .undef) (s.setO i (.map kc' vc' es')) → Res Mine G s w (unitR ((Instr.mapUpdate t (.map (some r)) (keyVal kc' a) xv).run P w)) K := by
    intro ents' ck' es' hr hl hp hK
    have hstp : Stp Mine w { w with heap := w.heap.setIfInBounds r (.map ents' ck') } :=
      ⟨rfl, rfl, rfl, by simp, fun k hk => by
        show (w.heap.setIfInBounds r (.map ents' ck'))[k]? = _
        rw [Array.getElem?_setIfInBounds, if_neg (fun (e : r = k) => hk (e ▸ l2))]⟩
    refine ⟨_, _, G, .v .undef, s.setO i (.map kc' vc' es'), by rw [hr]; rfl, hK, TR.undef _, rfl, ?_, .refl _, .refl _ _, by simp [St.setO], hstp⟩
    refine hi.setObj i _ (.map kc' vc' es') hh' rfl r sz ct hloc' hstp (fun k hk => ?_) ⟨r, sz, ct, hloc', l2, l3, ents', ck', ?_, hl, hp⟩
    · show (w.heap.setIfInBounds r (.map ents' ck'))[k]? = _
      rw [Array.getElem?_setIfInBounds, if_neg (fun (e : r = k) => hk e.symm)]
    · show (w.heap.setIfInBounds r (.map ents' ck'))[r]? = _
      rw [Array.getElem?_setIfInBounds, if_pos rfl, if_pos hrl]
  cases hf : mfind (kc'.keq a) es with
  | none =>
    rw [hf] at hfs
    refine finish (ents.push { key := keyVal kc' a, val := xv, born := ck }) (ck + 1) _ ?_ ?_ ?_ h
    · simp only [Instr.mapUpdate, Sem.run_bind, run_underlying hd, Result.andThen_ok, hg, run_checkKey htt hok1 hkk, run_findKey htt hok1 hdk hfs.1, run_setObj l4 (by intro c e f h; cases h)]
    · rw [mset_none hfs.2]; simp [l5]
    · intro j e m he hm
      rw [mset_none hfs.2, List.getElem?_append] at he
      rw [Array.getElem?_push] at hm
      split at he
      · rename_i hj
        rw [if_neg (by omega)] at hm
        exact l6 j e m he hm
      · rename_i hj
        have hje : j = ents.size := by
          have := (List.getElem?_eq_some_iff.1 he).1
          simp at this; omega
        subst hje
        rw [if_pos rfl] at hm
        cases hm
        rw [← l5, Nat.sub_self] at he
        simp at he
        subst he
        exact ⟨key_enc hik a, hval⟩
  | some q =>
    rw [hf] at hfs
    obtain ⟨j, m, k', f1, f2, f3, f4, f5⟩ := hfs
    have hka := keq_eq hik f4
    subst hka
    have hmk : m.key = keyVal kc' a := key_R hik (l6 j _ m f2 (by simpa using f3)).1
    have f3' : ents[j]? = some m := by simpa using f3
    have hjl := (Array.getElem?_eq_some_iff.1 f3').1
    refine finish (ents.modify j fun e => { e with key := keyVal kc' a, val := xv }) ck _ ?_ ?_ ?_ h
    · have e1 : ((ents[j]?).map (·.key)).getD (keyVal kc' a) = keyVal kc' a := by
        rw [f3']; simp [hmk]
      have e2 : (Instr.keyThatStays (keyVal kc' a) (keyVal kc' a)).run P w = .ok (keyVal kc' a) w := by
        simp [Instr.keyThatStays, sameBits_key hik]
      simp only [Instr.mapUpdate, Sem.run_bind, run_underlying hd, Result.andThen_ok, hg, run_checkKey htt hok1 hkk, run_findKey htt hok1 hdk f1, Nat.zero_add, e1, e2,
        run_setObj l4 (by intro c e f h; cases h)]
    · rw [mset_some f2 f4 f5]; simp [l5]
    · intro j' e m' he hm'
      rw [mset_some f2 f4 f5, List.getElem?_set] at he
      rw [Array.getElem?_modify] at hm'
      by_cases hjj : j = j'
      · subst hjj
        rw [if_pos rfl, if_pos (by omega)] at he
        cases he
        rw [if_pos rfl, f3'] at hm'
        cases hm'
        exact ⟨key_enc hik a, hval⟩
      · rw [if_neg hjj] at he hm'
        exact l6 j' e m' he hm'

end
end Go.Proofs.Ytaaedebknacheaa.AB

set_option linter.unusedVariables false
set_option linter.unusedSimpArgs false
namespace Go.Proofs.Ytaaedebknacheaa.AB
open Go

/-- the function has a body, and is entered by a call -/
def Entered (P : Program) (f : FuncId) : Prop := ∃ fn, P.funcs[f]? = some fn ∧ fn.name ≠ "runtime.NumGoroutine" ∧ fn.body.isSome = true

/-- what a call is to come to -/
def CallPost (Mine : Mn) (G : Gh) (s : St) (w : World) (K : TV → St → Prop) (e : Ending) (w' : World) : Prop :=
  ∃ v x s' G', e = .returned v ∧ K x s' ∧ TR G' x v ∧ s'.tm = s.tm ∧ Inv Mine G' s'.hp s'.T w' ∧ Fz G G' ∧ Lc s.hp.length G G' ∧ s.hp.length ≤ s'.hp.length ∧ Stp Mine w w'

def CallS (P : Program) (call : CallP) : Prop := ∀ md f args s K, call md f args s K → ∀ Mine G w (vs : Array Value), Inv Mine G s.hp s.T w → args.length = vs.size →
  (∀ (i : Nat) x y, args[i]? = some x → vs[i]? = some y → TR G x y) → Entered P f ∧ Calls P f vs w (CallPost Mine G s w K)

section
variable {P : Program} {tt : TT} {Mine : Mn} {G : Gh} {s : St} {a : Act} {w : World}

/-- what stands behind an operation -/
def Behind (Mine : Mn) (G : Gh) (s : St) (w : World) (dst : Option Nat) (K : TV → St → Prop) (next : Act → World → Prop) : Prop :=
  ∀ x s' G' a' w', K x s' → s'.tm = s.tm → Rel Mine G' (s'.put dst x) a' w' → Fz G G' → Lc s.hp.length G G' → s.hp.length ≤ s'.hp.length → Stp Mine w w' → next a' w'

theorem wp_value {o : Oper} {S : Sem Value} {K : TV → St → Prop} {next : Act → World → Prop} {Q : Exit → Act → World → Prop} (hr : Rel Mine G s a w)
    (he : execOp a.eval o = (do pure (.value (← S)))) (h : Res Mine G s w (S.run P w) K) (hn : Behind Mine G s w o.dst K next) : o.wp P a w next Q := by
  obtain ⟨y, w', G', x, s', h1, h2, h3, h4, h5, h6, h7, h8, h9⟩ := h
  unfold Oper.wp
  rw [he, Sem.run_bind, h1, Result.andThen_ok]
  show next (a.put o.dst y) w'
  exact hn x s' G' _ _ h2 h4 (hr.put h3 h4 h5 h6 h7) h6 h7 h8 h9

theorem wp_unit {o : Oper} {S : Sem Unit} {K : TV → St → Prop} {next : Act → World → Prop} {Q : Exit → Act → World → Prop} (hr : Rel Mine G s a w)
    (he : execOp a.eval o = (do S; pure .skip)) (h : Res Mine G s w (unitR (S.run P w)) K) (hn : Behind Mine G s w o.dst K next) : o.wp P a w next Q := by
  obtain ⟨y, w', G', x, s', h1, h2, h3, h4, h5, h6, h7, h8, h9⟩ := h
  cases hS : S.run P w with
  | halt hh ww => rw [hS] at h1; simp [unitR] at h1
  | ok u ww =>
    rw [hS] at h1
    simp only [unitR, Result.andThen_ok, Result.ok.injEq] at h1
    obtain ⟨rfl, rfl⟩ := h1
    unfold Oper.wp
    rw [he, Sem.run_bind, hS, Result.andThen_ok]
    show next (a.put o.dst Go.undef) ww
    exact hn x s' G' _ _ h2 h4 (hr.put h3 h4 h5 h6 h7) h6 h7 h8 h9

theorem wp_pure {o : Oper} {y : Value} {x : TV} {K : TV → St → Prop} {next : Act → World → Prop} {Q : Exit → Act → World → Prop} (hr : Rel Mine G s a w)
    (he : execOp a.eval o = pure (.value y)) (hxy : TR G x y) (h : K x s) (hn : Behind Mine G s w o.dst K next) : o.wp P a w next Q := by
  unfold Oper.wp
  rw [he, Sem.run_pure]
  show next (a.put o.dst y) w
  exact hn x s G _ _ h rfl (hr.put hxy rfl hr.inv (.refl _) (.refl _ _)) (.refl _) (.refl _ _) (Nat.le_refl _) (.refl _ _)

theorem PR_map (hr : Rel Mine G s a w) (ty : Nat) : ∀ (l : List (Nat × Operand)), PR G (l.map fun (i, x) => (i, s.ev tt ty x)) (l.map fun (i, x) => (i, a.eval x))
  | [] => trivial
  | (i, x) :: l => ⟨rfl, hr.ev ty x, PR_map hr ty l⟩

theorem args_R (hr : Rel Mine G s a w) (ty : Nat) (l : List Operand) : (∀ (i : Nat) x y, (l.map (s.ev tt ty))[i]? = some x → (l.map a.eval)[i]? = some y → TR G x y) := by
  intro i x y hx hy
  rw [List.getElem?_map] at hx hy
  cases hl : l[i]? with
  | none => rw [hl] at hx; cases hx
  | some o => rw [hl] at hx hy; cases hx; cases hy; exact hr.ev ty o

theorem opt_R (hr : Rel Mine G s a w) (o : Option Operand) : OptR G (o.map (s.ev tt 0)) (o.map a.eval) := by
  cases o with
  | none => trivial
  | some o => exact hr.ev 0 o

theorem max2_sound {k k' : IntKind} {x y : Int} {ts : Array TypeId} {ty : TypeId} : (Builtin.max_ ts ty #[.int k x, .int k' y]).run P w = .ok (.int k (if y > x then y else x)) w := by
  simp [Builtin.max_, Builtin.max2]

theorem min2_sound {k k' : IntKind} {x y : Int} {ts : Array TypeId} {ty : TypeId} : (Builtin.min_ ts ty #[.int k x, .int k' y]).run P w = .ok (.int k (if y < x then y else x)) w := by
  simp [Builtin.min_, Builtin.min2]

theorem builtin_sound (htt : TTOK P tt) {b : Builtin} {args : List TV} {ts : List Nat} {vs : List Value} {ty : TypeId} {cs : Array Bool} {K : TV → St → Prop} (h : builtinK tt b args ts s K)
    (hok : ts.all (fun t => (tt.at t).ok) = true) (hi : Inv Mine G s.hp s.T w) (hl : args.length = vs.length) (hp : ∀ (i : Nat) x y, args[i]? = some x → vs[i]? = some y → TR G x y) :
    ∃ S : Sem Value, builtin b ts.toArray ty cs vs.toArray = (do pure (.value (← S))) ∧ Res Mine G s w (S.run P w) K := by
  unfold builtinK at h
  split at h
  · rename_i x
    split at h
    · rename_i t
      match vs, hl with
      | [v], _ =>
        refine ⟨Builtin.len_ #[t] ty #[v], rfl, len_sound htt (by simpa using hok) h hi (hp 0 x v rfl rfl)⟩
    · exact h.elim
  · rename_i x y
    split at h
    · rename_i t t2
      match vs, hl with
      | [u, v], _ =>
        refine ⟨Builtin.append_ #[t, t2] ty #[u, v], rfl, ?_⟩
        simp only [List.all_cons, List.all_nil, Bool.and_true, Bool.and_eq_true] at hok
        unfold appendK at h
        split at h
        case h_2 => exact h.elim
        rename_i e he hsrc
        split at h
        · rename_i c l tk
          split at h
          · rename_i l' hc hy
            exact append_list htt hok.2 he hsrc (of_decide_eq_true hc) hy hi (hp 0 _ u rfl rfl) (hp 1 y v rfl rfl) h.1 h.2.1 h.2.2
          · exact h.elim
        · rename_i i g off len
          split at h
          · rename_i g' c l ts hh
            split at h
            · rename_i l' hc hy
              obtain ⟨rfl, h1, h2, h3⟩ := h
              exact append_arr htt hok.2 he hsrc (hp_get hh) (of_decide_eq_true hc) hy hi (hp 0 _ u rfl rfl) (hp 1 y v rfl rfl) h1 h2 h3
            · exact h.elim
          · exact h.elim
        · exact h.elim
    · exact h.elim
  · rename_i k x k' y
    split at h
    · match vs, hl with
      | [u, v], _ =>
        have h1 := hp 0 _ u rfl rfl
        have h2 := hp 1 _ v rfl rfl
        cases h1 with | v _ _ h1 =>
        cases h1
        cases h2 with | v _ _ h2 =>
        cases h2
        exact ⟨Builtin.max_ ts.toArray ty #[.int k x, .int k' y], rfl, Res.same hi max2_sound h (.v _ _ (.int _ _))⟩
    · exact h.elim
  · rename_i k x k' y
    split at h
    · match vs, hl with
      | [u, v], _ =>
        have h1 := hp 0 _ u rfl rfl
        have h2 := hp 1 _ v rfl rfl
        cases h1 with | v _ _ h1 =>
        cases h1
        cases h2 with | v _ _ h2 =>
        cases h2
        exact ⟨Builtin.min_ ts.toArray ty #[.int k x, .int k' y], rfl, Res.same hi min2_sound h (.v _ _ (.int _ _))⟩
    · exact h.elim
  · exact h.elim

/-- an own object without a block yet -/
theorem addGhost {hp : Hp} {T : Toks} (h : Inv Mine G hp T w) (o : O) (sz ct : Nat) (ho : OR Mine (G.setLoc hp.length o.gen (none, sz, ct)) w hp.length o) :
    Inv Mine (G.setLoc hp.length o.gen (none, sz, ct)) (hp ++ [some o]) T w ∧ Fz G (G.setLoc hp.length o.gen (none, sz, ct)) ∧ Lc hp.length G (G.setLoc hp.length o.gen (none, sz, ct)) := by
  have hf : Fz G (G.setLoc hp.length o.gen (none, sz, ct)) := ⟨fun _ _ _ x => x, fun _ _ x => x, fun _ _ x => x, fun _ _ _ _ _ x => x⟩
  have hlo : ∀ i g, i < hp.length → (G.setLoc hp.length o.gen (none, sz, ct)).loc i g = G.loc i g := by
    intro i g hi; simp only [Gh.setLoc]; rw [if_neg (by omega)]
  have hl : Lc hp.length G (G.setLoc hp.length o.gen (none, sz, ct)) := by
    intro i hi g x hx; rw [hlo i g hi]; exact hx
  have hnew : ∀ i o', (hp ++ [some o])[i]? = some (some o') → (i < hp.length ∧ hp[i]? = some (some o')) ∨ (i = hp.length ∧ o' = o) := by
    intro i o' hi
    rw [List.getElem?_append] at hi
    split at hi
    · exact .inl ⟨by assumption, hi⟩
    · have : i = hp.length := by
        rcases Nat.lt_or_ge (i - hp.length) 1 with h' | h'
        · omega
        · rw [List.getElem?_eq_none (by simpa using h')] at hi; cases hi
      subst this
      simp at hi
      exact .inr ⟨rfl, hi.symm⟩
  have hno : ∀ b s c, (G.setLoc hp.length o.gen (none, sz, ct)).loc hp.length o.gen ≠ some (some b, s, c) := by
    intro b s c e; simp [Gh.setLoc] at e
  refine ⟨⟨h.cells, h.mps, ?_, ?_, h.toks, ?_, h.tinj, ?_, ?_, h.tfin, h.mine, h.old⟩, hf, hl⟩
  · intro i o' hi
    rcases hnew i o' hi with ⟨h1, h2⟩ | ⟨rfl, rfl⟩
    · exact (h.objs i o' h2).keep h.lb hf hl (fun b sz ct hb => ⟨rfl, id⟩)
    · exact ho
  · intro i j oi oj b s c s' c' hij hi hj li lj
    rcases hnew i oi hi with ⟨h1, h2⟩ | ⟨rfl, rfl⟩
    · rw [hlo _ _ h1] at li
      rcases hnew j oj hj with ⟨k1, k2⟩ | ⟨rfl, rfl⟩
      · rw [hlo _ _ k1] at lj; exact h.inj i j oi oj b s c s' c' hij h2 k2 li lj
      · exact hno _ _ _ lj
    · exact hno _ _ _ li
  · intro t ht i o' b e c s c' h1 hi hl'
    rcases hnew i o' hi with ⟨k1, k2⟩ | ⟨rfl, rfl⟩
    · rw [hlo _ _ k1] at hl'; exact h.tobj t ht i o' b e c s c' h1 k2 hl'
    · exact hno _ _ _ hl'
  · intro i g hi
    simp only [List.length_append, List.length_cons, List.length_nil] at hi
    simp only [Gh.setLoc]
    rw [if_neg (by omega)]; exact h.lb i g (by omega)
  · intro i o' g hi hg
    rcases hnew i o' hi with ⟨k1, k2⟩ | ⟨rfl, rfl⟩
    · rw [hlo _ _ k1]; exact h.gens i o' g k2 hg
    · simp only [Gh.setLoc]
      rw [if_neg (by omega)]; exact h.lb _ g (Nat.le_refl _)

theorem allocMut_sound (htt : TTOK P tt) {e el : Nat} (hok : (tt.at e).ok = true) (hse : sliceElem tt e = some el) (hi : Inv Mine G s.hp s.T w) {K : TV → St → Prop}
    (h : K (.ptr (s.hp.length + 1) 0 0 0) ((s.addO (.arr 0 (tt.at el).code [] (fun _ => .no))).addO (.box (.arr s.hp.length 0 0 0)))) : Res Mine G s w ((Instr.alloc e true (.tuple #[])).run P w) K := by
  obtain ⟨i, h1, h2⟩ := (htt e hok).nil (by
    unfold sliceElem at hse
    split at hse
    · rename_i hk; rw [hk]; rfl
    · cases hse)
  have hz : (zeroValue e).run P w = .ok (.slice none 0 0) w := by simp [zeroValue, typeInfo, h1, h2]
  have hr : (Instr.alloc e true (.tuple #[])).run P w = .ok (.pointer (some ⟨w.heap.size, 0, none⟩)) (w.alloc (.cells (Value.slice none 0 0).cells e)) := by
    simp [Instr.alloc, hz, newVar, newRow]
  rw [hr]
  obtain ⟨g1, g2, g3⟩ := addGhost hi (.arr 0 (tt.at el).code [] (fun _ => .no)) (tt.at el).code.sz 0 ⟨none, 0, by simp [Gh.setLoc, O.gen], by simp, rfl⟩
  obtain ⟨y, w', G', x, s', k1, k2, k3, k4, k5, k6, k7, k8, k9⟩ := addBox (s := s.addO (.arr 0 (tt.at el).code [] (fun _ => .no))) (x := .arr s.hp.length 0 0 0) (y := .slice none 0 0) g1 e rfl (fun j z u hz hu => by
    match j with
    | 0 =>
      simp [TV.cells, Value.cells] at hz hu
      subst hz hu
      exact ⟨.arrNil _ _ (tt.at el).code.sz 0 (by simp [Gh.setLoc, O.gen]), rfl⟩
    | j + 1 => simp [TV.cells] at hz) (K := K) (by
      have : (s.addO (.arr 0 (tt.at el).code [] (fun _ => .no))).hp.length = s.hp.length + 1 := by simp [St.addO]
      rw [this]; exact h)
  refine ⟨y, w', G', x, s', k1, k2, k3, k4, k5, g2.trans k6, g3.trans (k7.mono (by simp [St.addO])), ?_, k9⟩
  simp only [St.addO, List.length_append, List.length_cons, List.length_nil] at k8
  omega

theorem call_sound {call : CallP} (hcs : CallS P call) {md : Md} {f : FuncId} {args : List TV} {vs : Array Value} {o : Oper} {K : TV → St → Prop} {next : Act → World → Prop} {Q : Exit → Act → World → Prop}
    (hr : Rel Mine G s a w) (h : call md f args s K) (hl : args.length = vs.size) (hp : ∀ (i : Nat) x y, args[i]? = some x → vs[i]? = some y → TR G x y)
    (he : execOp a.eval o = callFunc f vs) (hn : Behind Mine G s w o.dst K next) : o.wp P a w next Q := by
  obtain ⟨⟨fn, hf, hname, hbody⟩, hc⟩ := hcs md f args s K h Mine G w vs hr.inv hl hp
  have hrun : (callFunc f vs).run P w = .ok (.enter f vs) w := by
    simp [callFunc, hf, hname]
    intro hb
    rw [hb] at hbody; cases hbody
  unfold Oper.wp
  rw [he, hrun]
  refine hc.mono (fun e w' hpost => ?_)
  obtain ⟨v, x, s', G', rfl, h2, h3, h4, h5, h6, h7, h8, h9⟩ := hpost
  exact hn x s' G' _ _ h2 h4 (hr.put h3 h4 h5 h6 h7) h6 h7 h8 h9

theorem Res.lit {r : Result Value} {K : TV → St → Prop} (h : Res Mine G s w r (litK K)) : Res Mine G s w r K := by
  obtain ⟨y, w', G', x, s', h1, h2, h3, h4, h5, h6, h7, h8, h9⟩ := h
  unfold litK at h2
  split at h2
  · have : y = .bool true := by cases h3 with | v _ _ h => cases h; rfl
    subst this
    exact ⟨_, w', G', .v .tt, s', h1, h2, .v _ _ .tt, h4, h5, h6, h7, h8, h9⟩
  · have : y = .bool false := by cases h3 with | v _ _ h => cases h; rfl
    subst this
    exact ⟨_, w', G', .v .ff, s', h1, h2, .v _ _ .ff, h4, h5, h6, h7, h8, h9⟩
  · exact h2.elim

theorem aop_sound (htt : TTOK P tt) {call : CallP} (hcs : CallS P call) {md : Md} {o : Oper} {K : TV → St → Prop} {next : Act → World → Prop} {Q : Exit → Act → World → Prop}
    (h : aop tt call md o s K) (hr : Rel Mine G s a w) (hn : Behind Mine G s w o.dst K next) : o.wp P a w next Q := by
  unfold aop at h
  split at h
  case h_1 => exact h.elim
  rename_i hty
  cases hop : o.op <;> rw [hop] at h hty <;> dsimp only at h
  case move x => exact wp_pure hr (by simp [execOp, hop]) (hr.ev o.type x) h hn
  case assign x =>
    split at h
    · split at h
      · rename_i e he
        obtain ⟨h1, h2, h3⟩ := addGhost hr.inv (.arr 0 (tt.at e).code [] (fun _ => .no)) (tt.at e).code.sz 0 ⟨none, 0, by simp [Gh.setLoc, O.gen], by simp, rfl⟩
        unfold Oper.wp
        rw [show execOp a.eval o = pure (.value (a.eval (.const (.slice none 0 0)))) by simp [execOp, hop], Sem.run_pure]
        show next (a.put o.dst (.slice none 0 0)) w
        exact hn _ _ _ _ _ h rfl (hr.put (s' := s.addO (.arr 0 (tt.at e).code [] (fun _ => .no))) (.arrNil _ _ (tt.at e).code.sz 0 (by simp [Gh.setLoc, O.gen])) rfl h1 h2 h3) h2 h3 (by simp [St.addO]) (.refl _ _)
      · exact h.elim
    · exact wp_pure hr (by simp [execOp, hop]) (hr.ev o.type x) h hn
  case pick c x y =>
    exact wp_value hr (S := do pure (if ← asBool (a.eval c) then a.eval x else a.eval y)) (by simp [execOp, hop]) (pick_sound h hr.inv (hr.ev 0 c) (hr.ev o.type x) (hr.ev o.type y)) hn
  case alloc e =>
    have hok : (tt.at e).ok = true := by simpa [opTys] using hty
    split at h
    · split at h
      · rename_i el he
        exact wp_value hr (by simp [execOp, hop]) (allocMut_sound htt hok he hr.inv h) hn
      · exact h.elim
    · exact wp_value hr (by simp [execOp, hop]) (alloc_sound htt hok hr.inv h) hn
  case box e x =>
    split at h
    · rename_i ho
      exact wp_value hr (S := Instr.box e (a.eval x)) (by simp [execOp, hop]) (box_sound (e := e) hr.inv (hr.ev e x) ho h) hn
    · exact h.elim
  case build t parts =>
    exact wp_value hr (S := Instr.build t (parts.map fun (i, x) => (i, a.eval x))) (by simp [execOp, hop]) (build_sound htt (by simpa [opTys] using hty) h hr.inv (by rw [Array.toList_map]; exact PR_map hr 0 parts.toList)) hn
  case buildSlice t len parts =>
    split at h
    · exact wp_value hr (S := Instr.buildSlice t len (parts.map fun (i, x) => (i, a.eval x))) (by simp [execOp, hop]) (buildBox_sound htt h hr.inv (by rw [Array.toList_map]; exact PR_map hr 0 parts.toList)) hn
    · exact wp_value hr (S := Instr.buildSlice t len (parts.map fun (i, x) => (i, a.eval x))) (by simp [execOp, hop]) (buildSlice_sound htt h hr.inv (by rw [Array.toList_map]; exact PR_map hr 0 parts.toList)) hn
  case load t x => exact wp_value hr (by simp [execOp, hop]) (load_sound htt (by simpa [opTys] using hty) h hr.inv (hr.ev 0 x)) hn
  case store t x y => exact wp_unit hr (by simp [execOp, hop]) (store_sound htt (by simpa [opTys] using hty) h hr.inv (hr.ev 0 x) (hr.ev t y)) hn
  case nilCheck x =>
    split at h
    · rename_i hnil
      have hv := nilCheck_val hnil (hr.ev 0 x)
      refine wp_pure hr ?_ (hr.ev 0 x) h hn
      simp only [execOp, hop]
      split <;> first | rfl | skip
      all_goals (rename_i hx; rw [hx] at hv; cases hv)
    · exact h.elim
  case binOp op t x y yt =>
    split at h
    · exact wp_value hr (by simp [execOp, hop]) (bin_sound htt h hr.inv (hr.ev 0 x) (hr.ev 0 y)).lit hn
    · exact wp_value hr (by simp [execOp, hop]) (bin_sound htt h hr.inv (hr.ev 0 x) (hr.ev 0 y)) hn
  case unOp op t x => exact wp_value hr (by simp [execOp, hop]) (un_sound h hr.inv (hr.ev 0 x)) hn
  case convert src dst x =>
    simp only [opTys, List.all_cons, List.all_nil, Bool.and_true, Bool.and_eq_true] at hty
    exact wp_value hr (by simp [execOp, hop]) (convert_sound htt hty.1 hty.2 h hr.inv (hr.ev src x)) hn
  case makeFunc fn first caps =>
    cases fn
    case method => exact h.elim
    case methodOf => exact h.elim
    case via => exact h.elim
    case yield => exact h.elim
    rename_i f
    dsimp only at h
    split at h
    case h_2 => exact h.elim
    rename_i hfirst
    have hf0 : first = #[] := by apply Array.ext'; simpa using hfirst
    subst hf0
    refine wp_value hr (S := Instr.makeFunc (.func f) #[] (caps.map a.eval)) (by simp [execOp, hop])
      (makeFunc_sound (caps := caps.toList.map (s.ev tt 0)) (by simp) (fun i x y hx hy => args_R hr 0 caps.toList i x y hx (by simpa using hy)) h hr.inv) hn
  case makeMap t r =>
    cases r with
    | some r => exact h.elim
    | none =>
      dsimp only at h
      split at h
      · rename_i kc vc hmc
        exact wp_value hr (S := Instr.makeMap t none) (by simp [execOp, hop]) (makeMap_sound h hr.inv) hn
      · exact h.elim
  case makeSlice t l c =>
    split at h
    · exact wp_value hr (by simp [execOp, hop]) (makeList_sound htt h hr.inv (hr.ev 0 l) (hr.ev 0 c)) hn
    · exact wp_value hr (by simp [execOp, hop]) (makeSlice_sound htt h hr.inv (hr.ev 0 l) (hr.ev 0 c)) hn
  case slice t x lo hi mx => exact wp_value hr (by simp [execOp, hop]) (slice_sound htt (by simpa [opTys] using hty) h hr.inv (hr.ev t x) (opt_R hr lo) (opt_R hr hi) (opt_R hr mx)) hn
  case fieldAddr t x f => exact wp_value hr (by simp [execOp, hop]) (fieldAddr_sound htt (by simpa [opTys] using hty) h hr.inv (hr.ev 0 x)) hn
  case field t x f => exact wp_value hr (by simp [execOp, hop]) (field_sound htt (by simpa [opTys] using hty) h hr.inv (hr.ev t x)) hn
  case indexAddr t x i => exact wp_value hr (by simp [execOp, hop]) (indexAddr_sound htt (by simpa [opTys] using hty) h hr.inv (hr.ev t x) (hr.ev 0 i)) hn
  case index t x i => exact wp_value hr (by simp [execOp, hop]) (index_sound htt (by simpa [opTys] using hty) h hr.inv (hr.ev t x) (hr.ev 0 i)) hn
  case lookup t m k ok => exact wp_value hr (by simp [execOp, hop]) (lookup_sound htt h hr.inv (hr.ev t m) (hr.ev 0 k)) hn
  case mapUpdate t m k x => exact wp_unit hr (by simp [execOp, hop]) (mapUpdate_sound htt h hr.inv (hr.ev t m) (hr.ev 0 k) (hr.ev 0 x)) hn
  case extract x i => exact wp_value hr (by simp [execOp, hop]) (extract_sound h hr.inv (hr.ev 0 x)) hn
  case call c =>
    have hargs := args_R (tt := tt) hr 0 c.args.toList
    split at h
    · rename_i b hcal
      simp only [opTys, hcal] at hty
      obtain ⟨S, h1, h2⟩ := builtin_sound (ty := o.type) (cs := c.args.map fun | .const _ => true | _ => false) (vs := c.args.toList.map a.eval) htt h hty hr.inv (by simp) hargs
      refine wp_value hr (S := S) ?_ h2 hn
      have e1 : c.argTypes.toList.toArray = c.argTypes := by simp
      have e2 : (c.args.toList.map a.eval).toArray = c.args.map a.eval := by apply Array.ext'; simp
      rw [e1, e2] at h1
      rw [← h1]
      simp only [execOp, hop, resolve, hcal, pure_bind, invoke]
      rfl
    · rename_i f hcal
      have hfv := hr.ev (tt := tt) 0 f
      split at h
      · rename_i f' hf
        rw [hf] at hfv
        cases hfv with | v _ _ hfv =>
        have hfe : a.eval f = .func (.func f') #[] #[] := by
          generalize a.eval f = u at hfv
          cases hfv; rfl
        refine call_sound hcs hr h (vs := c.args.map a.eval) (by simp) (fun i x y hx hy => hargs i x y hx (by simpa using hy)) ?_ hn
        simp [execOp, hop, resolve, hcal, hfe, Deferred.ofValue, invoke]
      · rename_i f' caps hf
        rw [hf] at hfv
        obtain ⟨vs, hl, hp, hfe⟩ : ∃ vs : List Value, caps.length = vs.length ∧ (∀ (i : Nat) x y, caps[i]? = some x → vs[i]? = some y → TR G x y) ∧ a.eval f = .func (.func f') #[] vs.toArray := by
          generalize a.eval f = u at hfv
          cases hfv with | clo _ _ vs hl hp => exact ⟨vs, hl, hp, rfl⟩
        refine call_sound hcs hr h (vs := c.args.map a.eval ++ vs.toArray) (by simp [hl]) (fun i x y hx hy => ?_) ?_ hn
        · rw [List.getElem?_append] at hx
          rw [Array.getElem?_append] at hy
          simp only [List.length_map, Array.length_toList, Array.size_map] at hx hy
          split at hx
          · rename_i hi
            rw [if_pos hi] at hy
            exact hargs i x y hx (by simpa using hy)
          · rename_i hi
            rw [if_neg hi] at hy
            exact hp _ x y hx (by simpa using hy)
        · simp [execOp, hop, resolve, hcal, hfe, Deferred.ofValue, invoke]
      · exact h.elim
    · exact h.elim
  all_goals exact h.elim

end
end Go.Proofs.Ytaaedebknacheaa.AB

set_option linter.unusedVariables false
set_option linter.unusedSimpArgs false
namespace Go.Proofs.Ytaaedebknacheaa.AB
open Go

section
variable {P : Program} {tt : TT} {Mine : Mn} {G : Gh} {s : St} {a : Act} {w : World}

theorem Rel.retag (h : Rel Mine G s a w) {t : Nat} {x : TV} (hx : TR G x (a.tmps.getD t Go.undef)) : Rel Mine G (s.put (some t) x) a w := by
  refine ⟨by simp [St.put, h.len], fun j y hy => ?_, h.defers, h.inv⟩
  simp only [St.put, List.getElem?_set] at hy
  split at hy
  · rename_i e
    subst e
    split at hy
    · cases hy; exact hx
    · cases hy
  · exact h.tm j y hy

theorem yielded_of {ops : Array Oper} {j t : Nat} (ht : (ops[j]?).bind (·.dst) = some t) {b : Bool} (hb : a.tmps.getD t Go.undef = .bool b) : yielded ops a.tmps j = some b := by
  unfold yielded
  rw [ht]
  have : a.tmps[t]? = some (.bool b) := by
    rw [Array.getD_eq_getD_getElem?] at hb
    cases h : a.tmps[t]? with
    | none => rw [h] at hb; simp [Go.undef] at hb
    | some v => rw [h] at hb; simp at hb; rw [hb]
  simp [this]

theorem yielded_gone {ops : Array Oper} {j t : Nat} (ht : (ops[j]?).bind (·.dst) = some t) (hb : a.tmps.getD t Go.undef = Go.undef) : yielded ops a.tmps j = none := by
  unfold yielded
  rw [ht, Option.bind_some]
  rw [Array.getD_eq_getD_getElem?] at hb
  cases h : a.tmps[t]? with
  | none => rfl
  | some y =>
    rw [h] at hb
    have hb : y = Go.undef := hb
    subst hb
    rfl

theorem TR.gone : TR G (.v (.tup [])) Go.undef := .v _ _ (.tup [] [] rfl fun i x y hx => by simp at hx)

theorem guard_sound {ops : Array Oper} {o : Oper} {run skip : St → Prop} (h : guardK ops s o.guard run skip) (hr : Rel Mine G s a w) :
    ∃ s1, Rel Mine G s1 a w ∧ s1.hp = s.hp ∧ s1.T = s.T ∧ ((Region.wanted o (yielded ops a.tmps) = true ∧ run s1) ∨ (Region.wanted o (yielded ops a.tmps) = false ∧ skip s1)) := by
  unfold guardK at h
  split at h
  · rename_i hg
    exact ⟨s, hr, rfl, rfl, .inl ⟨by simp [Region.wanted, hg], h⟩⟩
  · rename_i j want hg
    split at h
    case h_2 => exact h.elim
    rename_i t ht
    have hv := hr.ev (tt := []) 0 (.tmp t)
    simp only [St.ev, Act.eval] at hv
    split at h
    · rename_i htt
      rw [htt] at hv
      have hb : a.tmps.getD t Go.undef = .bool true := by
        generalize a.tmps.getD t Go.undef = u at hv
        cases hv with | v _ _ hv => cases hv; rfl
      have hy := yielded_of ht hb
      refine ⟨s, hr, rfl, rfl, ?_⟩
      cases want
      · exact .inr ⟨by simp [Region.wanted, hg, hy], h⟩
      · exact .inl ⟨by simp [Region.wanted, hg, hy], h⟩
    · rename_i htt
      rw [htt] at hv
      have hb : a.tmps.getD t Go.undef = .bool false := by
        generalize a.tmps.getD t Go.undef = u at hv
        cases hv with | v _ _ hv => cases hv; rfl
      have hy := yielded_of ht hb
      refine ⟨s, hr, rfl, rfl, ?_⟩
      cases want
      · exact .inl ⟨by simp [Region.wanted, hg, hy], h⟩
      · exact .inr ⟨by simp [Region.wanted, hg, hy], h⟩
    · rename_i b htt
      rw [htt] at hv
      have hb : a.tmps.getD t Go.undef = .bool b := by
        generalize a.tmps.getD t Go.undef = u at hv
        cases hv with | v _ _ hv => cases hv; rfl
      have hy := yielded_of ht hb
      cases b
      · have h := h.2 rfl
        refine ⟨s.put (some t) (.v .ff), hr.retag (by rw [hb]; exact .v _ _ .ff), rfl, rfl, ?_⟩
        cases want
        · exact .inl ⟨by simp [Region.wanted, hg, hy], h⟩
        · exact .inr ⟨by simp [Region.wanted, hg, hy], h⟩
      · have h := h.1 rfl
        refine ⟨s.put (some t) (.v .tt), hr.retag (by rw [hb]; exact .v _ _ .tt), rfl, rfl, ?_⟩
        cases want
        · exact .inr ⟨by simp [Region.wanted, hg, hy], h⟩
        · exact .inl ⟨by simp [Region.wanted, hg, hy], h⟩
    · rename_i htt
      rw [htt] at hv
      have hb : a.tmps.getD t Go.undef = Go.undef := by
        generalize a.tmps.getD t Go.undef = u at hv
        cases hv with
        | v _ _ hv =>
          cases hv with
          | tup _ vs hl h => cases vs with
            | nil => rfl
            | cons _ _ => simp at hl
      exact ⟨s, hr, rfl, rfl, .inr ⟨by simp [Region.wanted, hg, yielded_gone ht hb], h⟩⟩
    · exact h.elim

theorem oper_monoQ {o : Oper} {a : Act} {w : World} {K K' : Act → World → Prop} {Q Q' : Exit → Act → World → Prop} (h : ∀ a w, K a w → K' a w) (hq : ∀ e a w, Q e a w → Q' e a w)
    (hh : o.wp P a w K Q) : o.wp P a w K' Q' := by
  unfold Oper.wp at *
  generalize (execOp a.eval o).run P w = r at *
  cases r with
  | ok n w' =>
    cases n <;> simp only [Oper.upon] at hh ⊢ <;>
      first
        | exact h _ _ hh
        | exact Calls.mono hh (fun e w'' he => by
            cases e <;> first
              | exact h _ _ he
              | exact hq _ _ _ he
              | exact (let ⟨a, w, q⟩ := he; ⟨a, w, hq _ _ _ q⟩))
        | exact Rows.mono hh (fun _ _ he => h _ _ he)
  | halt x w' => cases x <;> simp only [Oper.upon] at hh ⊢ <;> first | exact hq _ _ _ hh | exact hh

/-- a result of code, related to where it began -/
def Lift (Mine : Mn) (G : Gh) (h0 : Nat) (w : World) (Q : Exit → St → Prop) (e : Exit) (a' : Act) (w' : World) : Prop :=
  ∃ s' G', Q e s' ∧ Rel Mine G' s' a' w' ∧ Fz G G' ∧ Lc h0 G G' ∧ h0 ≤ s'.hp.length ∧ Stp Mine w w'

theorem Lift.of {h0 : Nat} {Q : Exit → St → Prop} {G1 : Gh} {w1 : World} (hf : Fz G G1) (hl : Lc h0 G G1) (hs : Stp Mine w w1) {e : Exit} {a' : Act} {w' : World}
    (h : Lift Mine G1 h0 w1 Q e a' w') : Lift Mine G h0 w Q e a' w' := by
  obtain ⟨s', G', h1, h2, h3, h4, h5, h6⟩ := h
  exact ⟨s', G', h1, h2, hf.trans h3, hl.trans h4, h5, hs.trans h6⟩

theorem awpL_sound (htt : TTOK P tt) {call : CallP} (hcs : CallS P call) {md : Mds} {rid h0 : Nat} {ops : Array Oper} {K : St → Prop} : ∀ (l : List Oper) (i : Nat) (s : St) (G : Gh) (a : Act) (w : World),
    awpL tt call md rid ops i l K s → Rel Mine G s a w → h0 ≤ s.hp.length → wpList P ops (Lift Mine G h0 w (seqK K (fun _ _ => False))) l a w
  | [], i, s, G, a, w, h, hr, hh => ⟨s, G, h, hr, .refl _, .refl _ _, hh, .refl _ _⟩
  | o :: l, i, s, G, a, w, h, hr, hh => by
    unfold awpL at h
    obtain ⟨s1, hr1, hp1, ht1, h⟩ := guard_sound h hr
    have mono : ∀ {G1 : Gh} {w1 : World}, Fz G G1 → Lc h0 G G1 → Stp Mine w w1 → ∀ {a1 : Act}, wpList P ops (Lift Mine G1 h0 w1 (seqK K (fun _ _ => False))) l a1 w1 →
        wpList P ops (Lift Mine G h0 w (seqK K (fun _ _ => False))) l a1 w1 := by
      intro G1 w1 f1 f2 f3 a1 hw
      have gen : ∀ (l : List Oper) (a1 : Act) (w2 : World), wpList P ops (Lift Mine G1 h0 w1 (seqK K (fun _ _ => False))) l a1 w2 → wpList P ops (Lift Mine G h0 w (seqK K (fun _ _ => False))) l a1 w2 := by
        intro l
        induction l with
        | nil => intro a1 w2 h; exact Lift.of f1 f2 f3 h
        | cons o l ih =>
          intro a1 w2 h
          unfold wpList at h ⊢
          split
          · rename_i hwt
            rw [if_pos hwt] at h
            rcases h with h | ⟨h1, a0, w0, h2⟩
            · refine .inl (oper_monoQ (fun a w h => ih a w h) (fun e a w h => Lift.of f1 f2 f3 h) h)
            · exact .inr ⟨h1, a0, w0, Lift.of f1 f2 f3 h2⟩
          · rename_i hwt
            rw [if_neg hwt] at h
            exact ih _ _ h
      exact gen l a1 w1 hw
    unfold wpList
    rcases h with ⟨hwt, h⟩ | ⟨hwt, h⟩
    · rw [if_pos hwt]
      refine .inl (aop_sound htt hcs h hr1 (fun x s' G' a' w' hk htm hrel hf hl hlen hst => ?_))
      rw [hp1] at hl hlen
      refine mono hf (hl.mono hh) hst (awpL_sound htt hcs l (i + 1) _ G' a' w' hk hrel ?_)
      cases o.dst <;> exact Nat.le_trans hh hlen
    · rw [if_neg (by rw [hwt]; exact Bool.false_ne_true)]
      have hrel := hr1.put (d := o.dst) (x := .v (.tup [])) (y := Go.undef) (s' := s1) TR.gone rfl hr1.inv (.refl _) (.refl _ _)
      refine awpL_sound htt hcs l (i + 1) _ G _ w h hrel ?_
      rw [← hp1] at hh
      cases o.dst <;> exact hh

end
end Go.Proofs.Ytaaedebknacheaa.AB

set_option linter.unusedVariables false
set_option linter.unusedSimpArgs false
namespace Go.Proofs.Ytaaedebknacheaa.AB
open Go

/-- one step, told by its result -/
def Run (KF : St → (TV → St → Prop) → Prop) (s : St) (K : TV → St → Prop) (c : Nat) : Prop :=
  ∃ x hp, K x ⟨s.tm, hp, s.T⟩ ∧ (c ≠ 2 → hp = s.hp) ∧ s.hp.length ≤ hp.length ∧
    ∀ s'' K', ((c = 0 ∧ K' x s'') ∨ (s''.hp = s.hp ∧ K' x ⟨s''.tm, hp, s''.T⟩)) → KF s'' K'

/-- an append to a list of ours -/
def RunA (KF : St → (TV → St → Prop) → Prop) (s : St) (K : TV → St → Prop) (tk : Tok) : Prop :=
  ∃ cd l, tk.own s.T.l ∧ K (.v (.list cd l (.tk s.T.n))) ⟨s.tm, s.hp, ⟨s.T.n + 1, s.T.n :: tk.drop s.T.l⟩⟩ ∧
    ∀ s'' K', tk.own s''.T.l → K' (.v (.list cd l (.tk s''.T.n))) ⟨s''.tm, s''.hp, ⟨s''.T.n + 1, s''.T.n :: tk.drop s''.T.l⟩⟩ → KF s'' K'

variable {KF : St → (TV → St → Prop) → Prop} {tt : TT} {s : St} {K : TV → St → Prop}

theorem Run.quiet {c : Nat} {x : TV} (h : K x s) (hh : ∀ s'' K', K' x s'' → KF s'' K') : Run KF s K c := by
  refine ⟨x, s.hp, h, fun _ => rfl, Nat.le_refl _, fun s'' K' h' => ?_⟩
  rcases h' with ⟨_, h'⟩ | ⟨h1, h3⟩
  · exact hh _ _ h'
  · rw [← h1] at h3; exact hh _ _ h3

theorem Run.read {c : Nat} (hc : c ≠ 0) {x : TV} (h : K x s) (hh : ∀ s'' K', s''.hp = s.hp → K' x s'' → KF s'' K') : Run KF s K c := by
  refine ⟨x, s.hp, h, fun _ => rfl, Nat.le_refl _, fun s'' K' h' => ?_⟩
  rcases h' with ⟨h0, h'⟩ | ⟨h1, h3⟩
  · exact absurd h0 hc
  · exact hh _ _ h1 (by rw [← h1] at h3; exact h3)

theorem Run.eff {x : TV} {hp : Hp} (hl : s.hp.length ≤ hp.length) (h : K x ⟨s.tm, hp, s.T⟩)
    (hh : ∀ s'' K', s''.hp = s.hp → K' x ⟨s''.tm, hp, s''.T⟩ → KF s'' K') : Run KF s K 2 := by
  refine ⟨x, hp, h, fun hc => absurd rfl hc, hl, fun s'' K' h' => ?_⟩
  rcases h' with ⟨h0, h'⟩ | ⟨h1, h3⟩
  · cases h0
  · exact hh _ _ h1 h3

theorem run_pick {c a b : TV} {n : Nat} (h : pickK c a b s K) : Run (pickK c a b) s K n := by
  unfold pickK at h
  split at h
  · exact .quiet h (fun _ _ h' => h')
  · exact .quiet h (fun _ _ h' => h')
  · split at h
    · rename_i x y hx hy
      exact .quiet h (fun _ _ h' => by unfold pickK; simp only [hx, hy]; exact h')
    · rename_i t _ _ hne
      have gen : ∀ s'' K', ((t = true → K' a s'') ∧ (t = false → K' b s'')) → pickK (.v (.bool t)) a b s'' K' := by
        intro s'' K' h'
        unfold pickK
        cases ha : boolOf a with
        | none => exact h'
        | some x =>
          cases hb : boolOf b with
          | none => exact h'
          | some y => exact (hne x y ha hb).elim
      cases t
      · exact .quiet (h.2 rfl) (fun _ _ h' => gen _ _ ⟨fun e => (Bool.false_ne_true e).elim, fun _ => h'⟩)
      · exact .quiet (h.1 rfl) (fun _ _ h' => gen _ _ ⟨fun _ => h', fun e => (Bool.false_ne_true e.symm).elim⟩)
  · exact h.elim

theorem run_load {t : Nat} {p : TV} {c : Nat} (hc : c = 0 → ∃ y, p = .v y) (h : loadK tt t p s K) : Run (loadK tt t p) s K c := by
  unfold loadK at h
  split at h
  · rename_i x f
    split at h
    · rename_i y hy
      exact .quiet h (fun _ _ h' => by unfold loadK; simp only [hy]; exact h')
    · exact h.elim
  · rename_i i g e f
    have hc0 : c ≠ 0 := fun e => by obtain ⟨_, h⟩ := hc e; cases h
    split at h
    · rename_i x hx
      split at h
      · split at h
        · rename_i y hy
          exact .read hc0 h (fun _ _ h1 h' => by unfold loadK; simp only [h1, hx, hy]; exact h')
        · exact h.elim
      · exact h.elim
    · rename_i g' c' l ts hx
      obtain ⟨ha, hb, h⟩ := h
      split at h
      · rename_i y hy
        exact .read hc0 h (fun _ _ h1 h' => by unfold loadK; simp only [h1, hx, hy]; exact ⟨ha, hb, h'⟩)
      · exact h.elim
    · exact h.elim
  · exact h.elim

theorem run_store {t : Nat} {p x : TV} (h : storeK tt t p x s K) : Run (storeK tt t p x) s K 2 := by
  unfold storeK at h
  split at h
  · rename_i i g e f
    split at h
    · rename_i y hy
      split at h
      · split at h
        · rename_i z hz
          exact .eff (hp := s.hp.set i (some (.box z))) (by simp) h (fun s'' _ h1 h' => by unfold storeK; simp only [h1, hy, hz]; unfold St.setO; rw [h1]; exact h')
        · exact h.elim
      · exact h.elim
    · rename_i g' c l ts hy
      obtain ⟨ha, hb, h⟩ := h
      split at h
      · rename_i z hz
        split at h
        · rename_i b hb'
          exact .eff (hp := s.hp.set i (some _)) (by simp) h (fun s'' _ h1 h' => by unfold storeK; simp only [h1, hy, hz, hb']; unfold St.setO; rw [h1]; exact ⟨ha, hb, h'⟩)
        · exact h.elim
      · exact h.elim
    · exact h.elim
  · exact h.elim

theorem run_build {t : Nat} {parts} {n : Nat} (h : buildK tt t parts s K) : Run (buildK tt t parts) s K n := by
  unfold buildK at h
  split at h
  · rename_i h1
    split at h
    · rename_i cs h2
      exact .quiet h (fun _ _ h' => by unfold buildK; simp only [h1, h2]; exact h')
    · exact h.elim
  · exact h.elim

theorem run_buildSlice {t len : Nat} {parts} {n : Nat} (h : buildSliceK tt t len parts s K) : Run (buildSliceK tt t len parts) s K n := by
  unfold buildSliceK at h
  split at h
  · rename_i e h1
    split at h
    · rename_i l h2 h3 h4
      exact .quiet h (fun _ _ h' => by unfold buildSliceK; simp only [h1, h2, h3, h4]; exact h')
    · exact h.elim
  · exact h.elim

theorem run_appendA {t t2 : Nat} {c : Cd} {l : List c.T} {tk : Tok} {y : TV} (h : appendK tt t t2 (.v (.list c l tk)) y s K) : RunA (appendK tt t t2 (.v (.list c l tk)) y) s K tk := by
  unfold appendK at h
  split at h
  case h_2 => exact h.elim
  rename_i e he hs
  dsimp only at h
  split at h
  · rename_i l' h1 h2
    obtain ⟨h3, h4, h⟩ := h
    refine ⟨c, l ++ l', h3, h, fun s'' K' ho h' => ?_⟩
    have h2' : srcOf c y s''.hp = some l' := h2
    unfold appendK; simp only [he, hs, h1, h2']
    exact ⟨ho, h4, h'⟩
  · exact h.elim

theorem run_append {t t2 : Nat} {x y : TV} (hx : ∀ c l tk, x ≠ .v (.list c l tk)) (h : appendK tt t t2 x y s K) : Run (appendK tt t t2 x y) s K 2 := by
  unfold appendK at h
  split at h
  case h_2 => exact h.elim
  rename_i e he hs
  split at h
  · exact absurd rfl (hx _ _ _)
  · rename_i i g off len
    split at h
    · rename_i g' c l ts hi
      split at h
      · rename_i l' h1 h2
        obtain ⟨h3, h4, h5, h⟩ := h
        refine .eff (hp := s.hp.set i (some _)) (by simp) h (fun s'' _ q1 h' => ?_)
        have h2' : srcOf c y s''.hp = some l' := by rw [q1]; exact h2
        have hi' : s''.hp.getD i none = some (.arr g' c l ts) := by rw [q1]; exact hi
        unfold appendK; simp only [he, hs, h1, h2', hi']
        unfold St.setO; rw [q1]; exact ⟨h3, h4, h5, h'⟩
      · exact h.elim
    · exact h.elim
  · exact h.elim

theorem run_len {k : TK} {x : TV} {c : Nat} (hc : c = 0 → ∃ y, x = .v y) (h : lenK k x s K) : Run (lenK k x) s K c := by
  unfold lenK at h
  split at h
  · exact .quiet h (fun _ _ h' => h')
  · exact .quiet h (fun _ _ h' => h')
  · exact .quiet h (fun _ _ h' => h')
  · exact .quiet h (fun _ _ h' => h')
  · exact .quiet h (fun _ _ h' => h')
  · exact .quiet h (fun _ _ h' => h')
  · have hc0 : c ≠ 0 := fun e => by obtain ⟨_, h⟩ := hc e; cases h
    split at h
    · rename_i hx
      exact .read hc0 h (fun _ _ h1 h' => by unfold lenK; simp only [h1, hx]; exact h')
    · exact h.elim
  · exact .quiet h (fun _ _ h' => by unfold lenK; simpa using h')
  · exact h.elim

theorem run_intBin {op : BinOp} {k : IntKind} {a b : Int} {k0 : V → Prop} (h : intBin op k a b k0) : ∃ x, k0 x ∧ ∀ k1 : V → Prop, k1 x → intBin op k a b k1 := by
  unfold intBin at h
  split at h <;> first
    | exact h.elim
    | exact ⟨_, h, fun _ h' => h'⟩
    | exact ⟨_, h.2, fun _ h' => ⟨h.1, h'⟩⟩

theorem run_strBin {op : BinOp} {a b : List UInt8} {k0 : V → Prop} (h : strBin op a b k0) : ∃ x, k0 x ∧ ∀ k1 : V → Prop, k1 x → strBin op a b k1 := by
  unfold strBin at h
  split at h <;> first
    | exact h.elim
    | exact ⟨_, h, fun _ h' => h'⟩
    | exact ⟨_, h.2, fun _ h' => ⟨h.1, h'⟩⟩

def binTail (ok : Bool) (k : TK) (cst : Bool) (op : BinOp) (x y : TV) (s : St) (K : TV → St → Prop) : Prop :=
  match ok, cst, nilK k x, nilK k y with
  | true, true, some a, some b => match a || b, op with
    | true, .eql => K (.v (cond (a && b) .tt .ff)) s
    | true, .neq => K (.v (cond (a && b) .ff .tt)) s
    | _, _ => False
  | _, _, _, _ => match ok, isBoolK k, boolOf x, boolOf y with
    | true, true, some a, some b => match op with
      | .eql => K (.v (.bool (a == b))) s
      | .neq => K (.v (.bool (!(a == b)))) s
      | _ => False
    | _, _, _, _ => False

theorem bin_tail {ok : Bool} {k : TK} {cst : Bool} {op : BinOp} {x y : TV} (hn1 : ∀ k a k' b, x = .v (.int k a) → y = .v (.int k' b) → False)
    (hn2 : ∀ a b, x = .v (.str a) → y = .v (.str b) → False) : binK ok k cst op x y = binTail ok k cst op x y := by
  funext s K
  unfold binK
  split
  · exact (hn1 _ _ _ _ rfl rfl).elim
  · exact (hn2 _ _ rfl rfl).elim
  · rfl

theorem run_binTail {ok : Bool} {k : TK} {cst : Bool} {op : BinOp} {x y : TV} {n : Nat} (h : binTail ok k cst op x y s K) : Run (binTail ok k cst op x y) s K n := by
  have red : ∀ s'' K', binTail ok k cst op x y s'' K' → binTail ok k cst op x y s'' K' := fun _ _ h => h
  revert red
  generalize hF : binTail ok k cst op x y = F at h ⊢
  rw [← hF] at h
  intro red
  have red : ∀ s'' K', binTail ok k cst op x y s'' K' → F s'' K' := by rw [← hF]; exact fun _ _ h => h
  clear hF
  unfold binTail at h red
  generalize nilK k x = n1 at h red
  generalize nilK k y = n2 at h red
  generalize isBoolK k = n3 at h red
  generalize boolOf x = n4 at h red
  generalize boolOf y = n5 at h red
  cases ok <;> cases cst <;> rcases n1 with _ | (_ | _) <;> rcases n2 with _ | (_ | _) <;> cases n3 <;> rcases n4 with _ | a4 <;> rcases n5 with _ | a5 <;> cases op <;> first
    | exact h.elim
    | exact .quiet h red

theorem run_bin {ok : Bool} {k : TK} {cst : Bool} {op : BinOp} {x y : TV} {n : Nat} (h : binK ok k cst op x y s K) : Run (binK ok k cst op x y) s K n := by
  by_cases h1 : ∃ k a k' b, x = .v (.int k a) ∧ y = .v (.int k' b)
  · obtain ⟨k, a, k', b, rfl, rfl⟩ := h1
    unfold binK at h
    dsimp only at h
    split at h
    · exact .quiet h.2 (fun _ _ h' => ⟨h.1, h'⟩)
    · exact .quiet h.2 (fun _ _ h' => ⟨h.1, h'⟩)
    · rename_i hn1 hn2
      split at h
      · rename_i hk
        obtain ⟨v, hv, hall⟩ := run_intBin h
        refine .quiet hv (fun s'' K' h' => ?_)
        unfold binK
        cases op <;> first
          | (simp only [hk]; exact hall (fun v => K' (.v v) s'') h')
          | exact (hn1 rfl).elim
          | exact (hn2 rfl).elim
      · exact h.elim
  · by_cases h2 : ∃ a b, x = .v (.str a) ∧ y = .v (.str b)
    · obtain ⟨a, b, rfl, rfl⟩ := h2
      have h : strBin op a b (fun v => K (.v v) s) := h
      obtain ⟨v, hv, hall⟩ := run_strBin h
      exact .quiet (KF := binK ok k cst op (.v (.str a)) (.v (.str b))) hv (fun s'' K' h' => hall (fun v => K' (.v v) s'') h')
    · have e := bin_tail (ok := ok) (k := k) (cst := cst) (op := op) (x := x) (y := y) (fun k a k' b q1 q2 => h1 ⟨k, a, k', b, q1, q2⟩) (fun a b q1 q2 => h2 ⟨a, b, q1, q2⟩)
      rw [e] at h ⊢
      exact run_binTail h

theorem run_buildBox {t len : Nat} {parts : List (Nat × TV)} (h : buildBoxK tt t len parts s K) : Run (buildBoxK tt t len parts) s K 2 := by
  unfold buildBoxK at h
  split at h
  case h_2 => exact h.elim
  rename_i e hok hk
  split at h
  · rename_i cs h1 h2 h3 h4 h5
    refine .eff (hp := s.hp ++ [some _]) (by simp) h (fun s'' _ q1 h' => ?_)
    unfold buildBoxK
    simp only [hok, hk, h1, h2, h3, h4, h5]
    unfold St.addO; rw [q1]; exact h'
  · exact h.elim

theorem run_lit {c : Nat} (h : Run KF s (litK K) c) : Run (fun s K => KF s (litK K)) s K c := by
  obtain ⟨x, hp, h1, h2, h3, h4⟩ := h
  unfold litK at h1
  split at h1
  · exact ⟨_, hp, h1, h2, h3, fun s'' K' h' => h4 s'' (litK K') h'⟩
  · exact ⟨_, hp, h1, h2, h3, fun s'' K' h' => h4 s'' (litK K') h'⟩
  · exact h1.elim

theorem run_un {op : UnOp} {x : TV} {n : Nat} (h : unK op x s K) : Run (unK op x) s K n := by
  unfold unK at h
  split at h <;> first
    | exact h.elim
    | exact .quiet h (fun _ _ h' => h')

theorem run_convert {src dst : Nat} {x : TV} {n : Nat} (h : convertK tt src dst x s K) : Run (convertK tt src dst x) s K n := by
  unfold convertK at h
  split at h
  · rename_i hk
    exact .quiet h (fun _ _ h' => by unfold convertK; simp only [hk]; exact h')
  · rename_i hk
    exact .quiet h (fun _ _ h' => by unfold convertK; simp only [hk]; exact h')
  · rename_i hk
    split at h
    · rename_i h1 h2 h3
      exact .quiet h (fun _ _ h' => by unfold convertK; simp only [hk, h1, h2, h3]; exact h')
    · exact h.elim
  · rename_i hk
    split at h
    · rename_i e h1
      split at h
      · rename_i h2
        exact .quiet h (fun _ _ h' => by unfold convertK; simp only [hk, h1, h2]; exact h')
      · exact h.elim
    · exact h.elim
  · exact h.elim

theorem run_bounds {len : Nat} {lo hi : Option TV} {k0 : Nat → Nat → Prop} (h : boundsK len lo hi k0) : ∃ a b, k0 a b ∧ ∀ k1 : Nat → Nat → Prop, k1 a b → boundsK len lo hi k1 := by
  unfold boundsK at h
  split at h
  · exact ⟨_, _, h, fun _ h' => h'⟩
  · exact ⟨_, _, h.2.2, fun _ h' => ⟨h.1, h.2.1, h'⟩⟩
  · exact ⟨_, _, h.2.2, fun _ h' => ⟨h.1, h.2.1, h'⟩⟩
  · exact ⟨_, _, h.2.2.2, fun _ h' => ⟨h.1, h.2.1, h.2.2.1, h'⟩⟩
  · exact h.elim

theorem run_slice {t : Nat} {x : TV} {lo hi mx : Option TV} {n : Nat} (hc : n = 0 → ∃ y, x = .v y) (h : sliceK tt t x lo hi mx s K) : Run (sliceK tt t x lo hi mx) s K n := by
  unfold sliceK at h
  split at h
  · rename_i hk
    split at h
    · obtain ⟨a, b, hab, hall⟩ := run_bounds h
      exact .quiet hab (fun s'' K' h' => by unfold sliceK; simp only [hk]; exact hall (fun a b => K' _ s'') h')
    · exact h.elim
  · rename_i c l tk hk
    split at h
    · rename_i e he
      split at h
      · rename_i hd
        split at h
        · obtain ⟨a, b, hab, hall⟩ := run_bounds h
          exact .quiet hab (fun s'' K' h' => by unfold sliceK; simp only [hk, he, hd]; exact hall (fun a b => K' _ s'') h')
        · obtain ⟨h1, h2, h⟩ := h
          split at h
          · obtain ⟨a, b, hab, hall⟩ := run_bounds h
            exact .quiet hab.2 (fun s'' K' h' => by unfold sliceK; simp only [hk, he, hd]; exact ⟨h1, h2, hall (fun a b => b = _ ∧ K' _ s'') ⟨hab.1, h'⟩⟩)
          · exact h.elim
        · exact h.elim
      · exact h.elim
    · exact h.elim
  · rename_i i g off len hk
    have hc0 : n ≠ 0 := fun e => by obtain ⟨_, h⟩ := hc e; cases h
    split at h
    · rename_i e g' c l ts he hi
      split at h
      · rename_i hd
        obtain ⟨h1, h⟩ := h
        obtain ⟨a, b, hab, hall⟩ := run_bounds h
        exact .read hc0 hab (fun s'' K' q1 h' => by unfold sliceK; simp only [hk, he, q1, hi, hd]; exact ⟨h1, hall (fun a b => K' _ s'') h'⟩)
      · exact h.elim
    · exact h.elim
  · exact h.elim

theorem run_makeSlice {t : Nat} {l c : TV} (h : makeSliceK tt t l c s K) : Run (makeSliceK tt t l c) s K 2 := by
  unfold makeSliceK at h
  split at h
  · rename_i e k n k' m he
    split at h
    · rename_i z hz
      obtain ⟨h1, h2, h3, h4, h⟩ := h
      refine .eff (hp := s.hp ++ [some _]) (by simp) h (fun s'' _ q1 h' => ?_)
      unfold makeSliceK; simp only [he, hz]
      unfold St.addO; rw [q1]; exact ⟨h1, h2, h3, h4, h'⟩
    · exact h.elim
  · exact h.elim

theorem run_makeList {t : Nat} {l c : TV} {d : Nat} (h : makeListK tt t l c s K) : Run (makeListK tt t l c) s K d := by
  unfold makeListK at h
  split at h
  · rename_i e k n k' m he
    split at h
    · rename_i z hz
      obtain ⟨h1, h2, h3, h4, h⟩ := h
      exact .quiet h (fun _ _ h' => by unfold makeListK; simp only [he, hz]; exact ⟨h1, h2, h3, h4, h'⟩)
    · exact h.elim
  · exact h.elim

theorem run_fieldAddr {t : Nat} {x : TV} {f : Nat} {n : Nat} (h : fieldAddrK tt t x f s K) : Run (fieldAddrK tt t x f) s K n := by
  unfold fieldAddrK at h
  split at h
  · rename_i fs hk
    split at h
    · rename_i off ft hf
      split at h
      · rename_i h1
        exact .quiet h (fun _ _ h' => by unfold fieldAddrK; simp only [hk, hf, h1]; exact h')
      · rename_i h1
        exact .quiet h (fun _ _ h' => by unfold fieldAddrK; simp only [hk, hf, h1]; exact h')
      · exact h.elim
    · exact h.elim
  · exact h.elim

theorem run_field {t : Nat} {x : TV} {f : Nat} {n : Nat} (h : fieldK tt t x f s K) : Run (fieldK tt t x f) s K n := by
  unfold fieldK at h
  split at h
  · rename_i fs hk
    split at h
    · rename_i off ft hf
      split at h
      · split at h
        · rename_i y hy
          exact .quiet h (fun _ _ h' => by unfold fieldK; simp only [hk, hf, hy]; exact h')
        · exact h.elim
      · split at h
        · rename_i y hy
          exact .quiet h (fun _ _ h' => by unfold fieldK; simp only [hk, hf, hy]; exact h')
        · exact h.elim
      · exact h.elim
    · exact h.elim
  · exact h.elim

theorem run_indexAddr {t : Nat} {x ix : TV} {n : Nat} (hc : n = 0 → ∃ y, x = .v y) (h : indexAddrK tt t x ix s K) : Run (indexAddrK tt t x ix) s K n := by
  unfold indexAddrK at h
  split at h
  · unfold bslK at h
    split at h
    case h_2 => exact h.elim
    rename_i h1 h2
    split at h
    case h_2 => exact h.elim
    rename_i h3 h4
    split at h
    case h_2 => exact h.elim
    rename_i h5
    exact .quiet h (fun _ _ h' => by unfold indexAddrK bslK; simp only [h1, h2, h3, h4, h5]; exact h')
  · rename_i e c l tk k i he
    split at h
    · rename_i hd
      exact .quiet h.2.2 (fun _ _ h' => by unfold indexAddrK; simp only [he, hd]; exact ⟨h.1, h.2.1, h'⟩)
    · exact h.elim
  · rename_i e j g off len k i he
    have hc0 : n ≠ 0 := fun e => by obtain ⟨_, h⟩ := hc e; cases h
    split at h
    · rename_i g' c l ts hi
      split at h
      · rename_i hd
        exact .read hc0 h.2.2.2 (fun s'' K' q1 h' => by unfold indexAddrK; simp only [he, q1, hi, hd]; exact ⟨h.1, h.2.1, h.2.2.1, h'⟩)
      · exact h.elim
    · exact h.elim
  · exact h.elim

theorem run_index {t : Nat} {x ix : TV} {n : Nat} (h : indexK tt t x ix s K) : Run (indexK tt t x ix) s K n := by
  unfold indexK at h
  split at h
  · rename_i hk
    exact .quiet h.2.2 (fun _ _ h' => by unfold indexK; simp only [hk]; exact ⟨h.1, h.2.1, h'⟩)
  · rename_i hk
    split at h
    · rename_i xs h1 h2 h3
      exact .quiet h.2.2 (fun _ _ h' => by unfold indexK; simp only [hk, h1, h2, h3]; exact ⟨h.1, h.2.1, h'⟩)
    · exact h.elim
  · exact h.elim

theorem run_look {c : Cd} {tok ok : Bool} {r : Option (c.T × Tok)} {z : V} (h : lookK c tok ok r z s K) :
    ∃ x, K x s ∧ ∀ s'' K', K' x s'' → lookK c tok ok r z s'' K' := by
  unfold lookK at h
  cases r with
  | none => exact ⟨_, h.2 rfl, fun _ _ h' => by unfold lookK; exact ⟨fun _ _ e => (nomatch e), fun _ => h'⟩⟩
  | some p => exact ⟨_, h.1 p.1 p.2 rfl, fun _ _ h' => by unfold lookK; exact ⟨fun a t e => by cases e; exact h', fun e => (nomatch e)⟩⟩

theorem run_lookup {t : Nat} {m k : TV} {ok : Bool} {n : Nat} (hc : n = 0 → ∃ y, m = .v y) (h : lookupK tt t m k ok s K) : Run (lookupK tt t m k ok) s K n := by
  unfold lookupK at h
  split at h
  · rename_i kc vc i hm
    have hc0 : n ≠ 0 := fun e => by obtain ⟨_, h⟩ := hc e; cases h
    split at h
    · rename_i kc' vc' es hi
      split at h
      · rename_i a h1 h2 h3
        obtain ⟨x, hx, hall⟩ := run_look h
        exact .read hc0 hx (fun s'' K' q1 h' => by unfold lookupK; simp only [hm, q1, hi, h1, h2, h3]; exact hall _ _ h')
      · exact h.elim
    · exact h.elim
  · rename_i kc vc kc' vc' es hm
    split at h
    · rename_i a h1 h2 h3
      obtain ⟨x, hx, hall⟩ := run_look h
      exact .quiet hx (fun s'' K' h' => by unfold lookupK; simp only [hm, h1, h2, h3]; exact hall _ _ h')
    · exact h.elim
  · exact h.elim

theorem run_mapUpdate {t : Nat} {m k x : TV} (h : mapUpdateK tt t m k x s K) : Run (mapUpdateK tt t m k x) s K 2 := by
  unfold mapUpdateK at h
  split at h
  · rename_i kc vc i hm
    split at h
    · rename_i kc' vc' es hi
      split at h
      · rename_i a b h1 h2 h3 h4 h5
        refine .eff (hp := s.hp.set i (some _)) (by simp) h (fun s'' _ q1 h' => ?_)
        unfold mapUpdateK; simp only [hm, q1, hi, h1, h2, h3, h4, h5]
        unfold St.setO; rw [q1]; exact h'
      · exact h.elim
    · exact h.elim
  · exact h.elim

theorem run_extract {x : TV} {i : Nat} {n : Nat} (h : extractK x i s K) : Run (extractK x i) s K n := by
  unfold extractK at h
  split at h
  · split at h
    · rename_i y hy
      exact .quiet h (fun _ _ h' => by unfold extractK; simp only [hy]; exact h')
    · exact h.elim
  · split at h
    · rename_i y hy
      exact .quiet h (fun _ _ h' => by unfold extractK; simp only [hy]; exact h')
    · exact h.elim
  · exact h.elim

theorem run_makeFunc {f : FuncId} {caps : List TV} {n : Nat} (h : makeFuncK f caps s K) : Run (makeFuncK f caps) s K n := by
  cases caps with
  | nil => exact .quiet (KF := makeFuncK f []) h (fun _ _ h' => h')
  | cons a l => exact .quiet (KF := makeFuncK f (a :: l)) h (fun _ _ h' => h')

end Go.Proofs.Ytaaedebknacheaa.AB

set_option linter.unusedVariables false
set_option linter.unusedSimpArgs false
namespace Go.Proofs.Ytaaedebknacheaa.AB
open Go

theorem vq_zero {x : TV} (h : vq x = 0) : ∃ y, x = .v y := by
  cases x <;> first
    | exact ⟨_, rfl⟩
    | cases h

theorem vqs_zero : ∀ {l : List TV}, vqs l = 0 → ∀ x ∈ l, ∃ y, x = .v y
  | [], _, x, hx => by cases hx
  | .v a :: l, h, x, hx => by
    rcases List.mem_cons.1 hx with rfl | hx
    · exact ⟨_, rfl⟩
    · exact vqs_zero (l := l) h x hx
  | .ptr _ _ _ _ :: _, h, _, _ => by cases h
  | .arr _ _ _ _ :: _, h, _, _ => by cases h
  | .mapr _ :: _, h, _, _ => by cases h
  | .clo _ _ :: _, h, _, _ => by cases h
  | .iter _ :: _, h, _, _ => by cases h
  | .bsl _ _ :: _, h, _, _ => by cases h
  | .agg _ :: _, h, _, _ => by cases h
  | .tup _ :: _, h, _, _ => by cases h

def CallDet (call : CallP) : Prop := ∀ f args s K, call .dflt f args s K → ∃ x, K x s ∧ ∀ s'' K', K' x s'' → call .dflt f args s'' K'

/-- the operands are seen alike -/
def EvEq (tt : TT) (o : Oper) (s s'' : St) : Prop := ∀ ty, ∀ z ∈ o.op.operands, s''.ev tt ty z = s.ev tt ty z

def RunE (tt : TT) (call : CallP) (md : Md) (o : Oper) (s : St) (K : TV → St → Prop) : Prop :=
  ∃ x hp, K x ⟨s.tm, hp, s.T⟩ ∧ (cls tt md o s ≠ 2 → hp = s.hp) ∧ s.hp.length ≤ hp.length ∧
    ∀ s'' K', EvEq tt o s s'' → ((cls tt md o s = 0 ∧ K' x s'') ∨ (s''.hp = s.hp ∧ K' x ⟨s''.tm, hp, s''.T⟩)) → aop tt call md o s'' K'

/-- the same of an append to a list of ours -/
def RunEA (tt : TT) (call : CallP) (md : Md) (o : Oper) (s : St) (K : TV → St → Prop) : Prop :=
  ∃ (z : Operand) (cd : Cd) (l0 : List cd.T) (cd' : Cd) (l : List cd'.T) (tk : Tok), z ∈ o.op.operands ∧ s.ev tt 0 z = .v (.list cd l0 tk) ∧ tk.own s.T.l ∧
    K (.v (.list cd' l (.tk s.T.n))) ⟨s.tm, s.hp, ⟨s.T.n + 1, s.T.n :: tk.drop s.T.l⟩⟩ ∧
    ∀ s'' K', EvEq tt o s s'' → tk.own s''.T.l → K' (.v (.list cd' l (.tk s''.T.n))) ⟨s''.tm, s''.hp, ⟨s''.T.n + 1, s''.T.n :: tk.drop s''.T.l⟩⟩ → aop tt call md o s'' K'

section
variable {tt : TT} {call : CallP} {md : Md} {o : Oper} {s : St} {K : TV → St → Prop}

theorem RunE.of {KF : St → (TV → St → Prop) → Prop} (h : Run KF s K (cls tt md o s)) (hh : ∀ s'' K', EvEq tt o s s'' → KF s'' K' → aop tt call md o s'' K') : RunE tt call md o s K := by
  obtain ⟨x, hp, h1, h2, h3, h4⟩ := h
  exact ⟨x, hp, h1, h2, h3, fun s'' K' he h => hh s'' K' he (h4 s'' K' h)⟩

theorem map_congr {l : List Operand} {f g : Operand → TV} (h : ∀ z ∈ l, f z = g z) : l.map f = l.map g := List.map_congr_left h

theorem parts_congr {l : List (Nat × Operand)} {f g : Operand → TV} (h : ∀ p ∈ l, f p.2 = g p.2) : (l.map fun (i, x) => (i, f x)) = (l.map fun (i, x) => (i, g x)) :=
  List.map_congr_left fun p hp => by
    obtain ⟨i, x⟩ := p
    simp only [h (i, x) hp]

theorem run_builtin {b : Builtin} {args : List TV} {ts : List Nat} {c : Nat} (hb : b = .append → c = 2) (hb2 : b = .append → ∀ c l tk r, args ≠ .v (.list c l tk) :: r) (hc : c = 0 → ∀ x ∈ args, ∃ y, x = .v y)
    (h : builtinK tt b args ts s K) : Run (builtinK tt b args ts) s K c := by
  unfold builtinK at h
  split at h
  · split at h
    · exact run_len (fun e => hc e _ (List.mem_singleton.2 rfl)) h
    · exact h.elim
  · have := hb rfl
    subst this
    split at h
    · exact run_append (fun c l tk e => hb2 rfl c l tk _ (by rw [e])) h
    · exact h.elim
  · split at h
    · rename_i hk
      exact .quiet h (fun _ _ h' => by unfold builtinK; simp only [hk]; exact h')
    · exact h.elim
  · split at h
    · rename_i hk
      exact .quiet h (fun _ _ h' => by unfold builtinK; simp only [hk]; exact h')
    · exact h.elim
  · exact h.elim

theorem aop_run (hcd : CallDet call) (h3 : cls tt md o s ≠ 3) (h4 : cls tt md o s ≠ 4) (h : aop tt call md o s K) : RunE tt call md o s K := by
  unfold aop at h
  split at h
  case h_1 => exact h.elim
  rename_i hty
  have start : ∀ s'' K', (match o.op with
    | op => aop tt call md o s'' K') → aop tt call md o s'' K' := fun _ _ h => h
  clear start
  cases hop : o.op <;> rw [hop] at h hty <;> dsimp only at h
  case move x =>
    refine .of (KF := fun s' K' => K' (s.ev tt o.type x) s') (.quiet h fun _ _ h => h) fun s'' K' he h' => ?_
    unfold aop; simp only [hop, hty]
    rw [he _ x (by simp [hop, Op.operands])]; exact h'
  case assign x =>
    by_cases hm : md = .mut ∧ x = .const (.slice none 0 0)
    · obtain ⟨rfl, rfl⟩ := hm
      have h : (match sliceElem tt o.type with
        | some e => K (.arr s.hp.length 0 0 0) (s.addO (.arr 0 (tt.at e).code [] (fun _ => .no)))
        | none => False) := h
      cases hse : sliceElem tt o.type with
      | none => rw [hse] at h; exact h.elim
      | some e =>
        rw [hse] at h
        have hcl : cls tt .mut o s = 2 := by simp [cls, hop]
        refine .of (KF := fun s' K' => K' (.arr s'.hp.length 0 0 0) (s'.addO (.arr 0 (tt.at e).code [] (fun _ => .no)))) (by
          rw [hcl]
          refine .eff (hp := s.hp ++ [some _]) (by simp) h (fun s'' _ q1 h' => ?_)
          unfold St.addO; rw [q1]; exact h') fun s'' K' he h' => ?_
        unfold aop; simp only [hop, hty, hse]; exact h'
    · have h' : K (s.ev tt o.type x) s := by
        split at h
        · exact (hm ⟨rfl, rfl⟩).elim
        · exact h
      refine .of (KF := fun s' K' => K' (s.ev tt o.type x) s') (.quiet h' fun _ _ h => h) fun s'' K' he h' => ?_
      unfold aop; simp only [hop, hty]
      rw [← he _ x (by simp [hop, Op.operands])] at h'
      split
      · exact (hm ⟨rfl, rfl⟩).elim
      · exact h'
  case pick c a b =>
    refine .of (run_pick h) fun s'' K' he h' => ?_
    unfold aop; simp only [hop, hty]
    rw [he _ c (by simp [hop, Op.operands]), he _ a (by simp [hop, Op.operands]), he _ b (by simp [hop, Op.operands])]; exact h'
  case alloc e =>
    have hcl : cls tt md o s = 2 := by simp [cls, hop]
    by_cases hm : md = .mut
    · subst hm
      have h : (match sliceElem tt e with
        | some el => K (.ptr (s.hp.length + 1) 0 0 0) ((s.addO (.arr 0 (tt.at el).code [] (fun _ => .no))).addO (.box (.arr s.hp.length 0 0 0)))
        | none => False) := h
      cases hse : sliceElem tt e with
      | none => rw [hse] at h; exact h.elim
      | some el =>
        rw [hse] at h
        refine .of (KF := fun s' K' => K' (.ptr (s'.hp.length + 1) 0 0 0) ((s'.addO (.arr 0 (tt.at el).code [] (fun _ => .no))).addO (.box (.arr s'.hp.length 0 0 0)))) (by
          rw [hcl]
          refine .eff (hp := (s.hp ++ [some _]) ++ [some _]) (by simp) h (fun s'' _ q1 h' => ?_)
          unfold St.addO; rw [q1]; exact h') fun s'' K' he h' => ?_
        unfold aop; simp only [hop, hty, hse]; exact h'
    · have h' : K (.ptr s.hp.length 0 0 0) (s.addO (.box (.v (tt.at e).zero))) := by
        split at h
        · exact (hm rfl).elim
        · exact h
      refine .of (KF := fun s' K' => K' (.ptr s'.hp.length 0 0 0) (s'.addO (.box (.v (tt.at e).zero)))) (by
        rw [hcl]
        refine .eff (hp := s.hp ++ [some _]) (by simp) h' (fun s'' _ q1 h' => ?_)
        unfold St.addO; rw [q1]; exact h') fun s'' K' he h' => ?_
      unfold aop; simp only [hop, hty]; exact h'
  case box e x =>
    have hcl : cls tt md o s = 2 := by simp [cls, hop]
    split at h
    · rename_i hall
      refine .of (KF := fun s' K' => K' (.ptr s'.hp.length 0 0 0) (s'.addO (.box (s.ev tt e x)))) (by
        rw [hcl]
        refine .eff (hp := s.hp ++ [some _]) (by simp) h (fun s'' _ q1 h' => ?_)
        unfold St.addO; rw [q1]; exact h') fun s'' K' he h' => ?_
      unfold aop; simp only [hop, hty]
      rw [he _ x (by simp [hop, Op.operands]), hall]; exact h'
    · exact h.elim
  case build t parts =>
    refine .of (run_build h) fun s'' K' he h' => ?_
    unfold aop; simp only [hop, hty]
    have e := parts_congr (l := parts.toList) (f := s''.ev tt 0) (g := s.ev tt 0) fun p hp => he 0 p.2 (by
      rw [hop]
      simp only [Op.operands]
      first
        | exact Array.mem_map.2 ⟨p, Array.mem_toList_iff.1 hp, rfl⟩
        | exact List.mem_toArray.2 (List.mem_map.2 ⟨p, hp, rfl⟩))
    exact cast (congrArg (fun l => buildK tt t l s'' K') e.symm) h'
  case buildSlice t len parts =>
    have e : ∀ s'', EvEq tt o s s'' → (parts.toList.map fun (i, x) => (i, s''.ev tt 0 x)) = (parts.toList.map fun (i, x) => (i, s.ev tt 0 x)) := fun s'' he =>
      parts_congr (l := parts.toList) (f := s''.ev tt 0) (g := s.ev tt 0) fun p hp => he 0 p.2 (by
        rw [hop]
        simp only [Op.operands]
        first
          | exact Array.mem_map.2 ⟨p, Array.mem_toList_iff.1 hp, rfl⟩
          | exact List.mem_toArray.2 (List.mem_map.2 ⟨p, hp, rfl⟩))
    by_cases hm : md = .mut
    · subst hm
      have h : buildBoxK tt t len (parts.toList.map fun (i, x) => (i, s.ev tt 0 x)) s K := h
      have hcl : cls tt .mut o s = 2 := by simp [cls, hop]
      refine .of (by rw [hcl]; exact run_buildBox h) fun s'' K' he h' => ?_
      unfold aop; simp only [hop, hty]
      exact cast (congrArg (fun l => buildBoxK tt t len l s'' K') (e s'' he).symm) h'
    · have h' : buildSliceK tt t len (parts.toList.map fun (i, x) => (i, s.ev tt 0 x)) s K := by
        split at h
        · exact (hm rfl).elim
        · exact h
      refine .of (run_buildSlice h') fun s'' K' he h' => ?_
      unfold aop; simp only [hop, hty]
      exact cast (congrArg (fun l => buildSliceK tt t len l s'' K') (e s'' he).symm) h'
  case load t a =>
    refine .of (run_load (fun e => vq_zero (by simpa [cls, hop] using e)) h) fun s'' K' he h' => ?_
    unfold aop; simp only [hop, hty]
    rw [he _ a (by simp [hop, Op.operands])]; exact h'
  case store t a x =>
    have hcl : cls tt md o s = 2 := by simp [cls, hop]
    refine .of (by rw [hcl]; exact run_store h) fun s'' K' he h' => ?_
    unfold aop; simp only [hop, hty]
    rw [he _ a (by simp [hop, Op.operands]), he _ x (by simp [hop, Op.operands])]; exact h'
  case nilCheck x =>
    split at h
    · rename_i hn
      refine .of (KF := fun s' K' => K' (s.ev tt 0 x) s') (.quiet h fun _ _ h => h) fun s'' K' he h' => ?_
      unfold aop; simp only [hop, hty]
      rw [he _ x (by simp [hop, Op.operands]), hn]; exact h'
    · exact h.elim
  case binOp op t x y t' =>
    by_cases hm : md = .mut
    · subst hm
      have h : binK (tt.at t).ok (tt.at t).k (Region.isConst x || Region.isConst y) op (s.ev tt 0 x) (s.ev tt 0 y) s (litK K) := h
      refine .of (run_lit (run_bin h)) fun s'' K' he h' => ?_
      unfold aop; simp only [hop, hty]
      rw [he _ x (by simp [hop, Op.operands]), he _ y (by simp [hop, Op.operands])]; exact h'
    · have h' : binK (tt.at t).ok (tt.at t).k (Region.isConst x || Region.isConst y) op (s.ev tt 0 x) (s.ev tt 0 y) s K := by
        split at h
        · exact (hm rfl).elim
        · exact h
      refine .of (run_bin h') fun s'' K' he h' => ?_
      unfold aop; simp only [hop, hty]
      rw [he _ x (by simp [hop, Op.operands]), he _ y (by simp [hop, Op.operands])]; exact h'
  case unOp op t x =>
    refine .of (run_un h) fun s'' K' he h' => ?_
    unfold aop; simp only [hop, hty]
    rw [he _ x (by simp [hop, Op.operands])]; exact h'
  case convert src dst x =>
    refine .of (run_convert h) fun s'' K' he h' => ?_
    unfold aop; simp only [hop, hty]
    rw [he _ x (by simp [hop, Op.operands])]; exact h'
  case makeFunc fo first caps =>
    cases fo with
    | func f =>
      dsimp only at h
      split at h
      · rename_i hfirst
        refine .of (run_makeFunc h) fun s'' K' he h' => ?_
        unfold aop; simp only [hop, hty, hfirst]
        rw [map_congr (f := s''.ev tt 0) (g := s.ev tt 0) fun z hz => he 0 z (by rw [hop]; simp [Op.operands, Array.mem_toList_iff.1 hz])]
        exact h'
      · exact h.elim
    | _ => exact h.elim
  case makeMap t r =>
    have hcl : cls tt md o s = 2 := by simp [cls, hop]
    cases r with
    | some x => exact h.elim
    | none =>
      dsimp only at h
      split at h
      · rename_i kc vc hmc
        refine .of (KF := fun s' K' => K' (.mapr s'.hp.length) (s'.addO (.map kc vc []))) (by
          rw [hcl]
          refine .eff (hp := s.hp ++ [some _]) (by simp) h (fun s'' _ q1 h' => ?_)
          unfold St.addO; rw [q1]; exact h') fun s'' K' he h' => ?_
        unfold aop; simp only [hop, hty, hmc]; exact h'
      · exact h.elim
  case makeSlice t l c =>
    have hcl : cls tt md o s = 2 := by simp [cls, hop]
    by_cases hm : md = .lend
    · subst hm
      have h : makeListK tt t (s.ev tt 0 l) (s.ev tt 0 c) s K := h
      refine .of (run_makeList h) fun s'' K' he h' => ?_
      unfold aop; simp only [hop, hty]
      rw [he _ l (by simp [hop, Op.operands]), he _ c (by simp [hop, Op.operands])]; exact h'
    · have h' : makeSliceK tt t (s.ev tt 0 l) (s.ev tt 0 c) s K := by
        split at h
        · exact (hm rfl).elim
        · exact h
      refine .of (by rw [hcl]; exact run_makeSlice h') fun s'' K' he h' => ?_
      unfold aop; simp only [hop, hty]
      rw [he _ l (by simp [hop, Op.operands]), he _ c (by simp [hop, Op.operands])]; exact h'
  case slice t x lo hi mx =>
    refine .of (run_slice (fun e => vq_zero (by simpa [cls, hop] using e)) h) fun s'' K' he h' => ?_
    unfold aop; simp only [hop, hty]
    have h1 : lo.map (s''.ev tt 0) = lo.map (s.ev tt 0) := by
      cases hv : lo with
      | none => rfl
      | some z => simp only [Option.map_some]; rw [he 0 z (by rw [hop, hv]; simp [Op.operands])]
    have h2 : hi.map (s''.ev tt 0) = hi.map (s.ev tt 0) := by
      cases hv : hi with
      | none => rfl
      | some z => simp only [Option.map_some]; rw [he 0 z (by rw [hop, hv]; simp [Op.operands])]
    have h3 : mx.map (s''.ev tt 0) = mx.map (s.ev tt 0) := by
      cases hv : mx with
      | none => rfl
      | some z => simp only [Option.map_some]; rw [he 0 z (by rw [hop, hv]; simp [Op.operands])]
    rw [he _ x (by simp [hop, Op.operands]), h1, h2, h3]; exact h'
  case fieldAddr t x f =>
    refine .of (run_fieldAddr h) fun s'' K' he h' => ?_
    unfold aop; simp only [hop, hty]
    rw [he _ x (by simp [hop, Op.operands])]; exact h'
  case field t x f =>
    refine .of (run_field h) fun s'' K' he h' => ?_
    unfold aop; simp only [hop, hty]
    rw [he _ x (by simp [hop, Op.operands])]; exact h'
  case indexAddr t x i =>
    refine .of (run_indexAddr (fun e => vq_zero (by simpa [cls, hop] using e)) h) fun s'' K' he h' => ?_
    unfold aop; simp only [hop, hty]
    rw [he _ x (by simp [hop, Op.operands]), he _ i (by simp [hop, Op.operands])]; exact h'
  case index t x i =>
    refine .of (run_index h) fun s'' K' he h' => ?_
    unfold aop; simp only [hop, hty]
    rw [he _ x (by simp [hop, Op.operands]), he _ i (by simp [hop, Op.operands])]; exact h'
  case lookup t m k ok =>
    refine .of (run_lookup (fun e => vq_zero (by simpa [cls, hop] using e)) h) fun s'' K' he h' => ?_
    unfold aop; simp only [hop, hty]
    rw [he _ m (by simp [hop, Op.operands]), he _ k (by simp [hop, Op.operands])]; exact h'
  case mapUpdate t m k x =>
    have hcl : cls tt md o s = 2 := by simp [cls, hop]
    refine .of (by rw [hcl]; exact run_mapUpdate h) fun s'' K' he h' => ?_
    unfold aop; simp only [hop, hty]
    rw [he _ m (by simp [hop, Op.operands]), he _ k (by simp [hop, Op.operands]), he _ x (by simp [hop, Op.operands])]; exact h'
  case extract x i =>
    refine .of (run_extract h) fun s'' K' he h' => ?_
    unfold aop; simp only [hop, hty]
    rw [he _ x (by simp [hop, Op.operands])]; exact h'
  case call c =>
    have hargs : ∀ s'', EvEq tt o s s'' → c.args.toList.map (s''.ev tt 0) = c.args.toList.map (s.ev tt 0) := fun s'' he =>
      map_congr fun z hz => he 0 z (by rw [hop]; simp [Op.operands, Call.operands, Array.mem_toList_iff.1 hz])
    cases hce : c.callee with
    | builtin b =>
      rw [hce] at h
      dsimp only at h
      have hcl : b = .append → cls tt md o s = (match c.args.toList.map (s.ev tt 0) with
        | .v (.list _ _ _) :: _ => 4
        | _ => 2) := fun e => by
        subst e
        simp only [cls, hop, hce]
        generalize c.args.toList.map (s.ev tt 0) = L
        cases L with
        | nil => rfl
        | cons a r => cases a with
          | v x => cases x <;> rfl
          | _ => rfl
      refine .of (run_builtin (fun e => by
        have := hcl e
        split at this
        · exact absurd this h4
        · exact this) (fun e c' l tk r he => by
        have := hcl e
        rw [he] at this
        exact h4 this) (fun e => vqs_zero (by
        cases b <;> first
          | (simp [cls, hop, hce] at e <;> exact e)
          | (exfalso
             have := hcl rfl
             rw [e] at this
             split at this <;> cases this))) h) fun s'' K' he h' => ?_
      unfold aop; simp only [hop, hty, hce]
      rw [hargs s'' he]; exact h'
    | value f =>
      rw [hce] at h
      dsimp only at h
      have hmd : md = .dflt := by
        cases md <;> first
          | rfl
          | (simp [cls, hop, hce] at h3)
      subst hmd
      have hcl : cls tt .dflt o s = 0 := by simp [cls, hop, hce]
      split at h
      · rename_i g hf
        obtain ⟨x, hx, hall⟩ := hcd _ _ _ _ h
        refine .of (KF := fun s' K' => call .dflt g (c.args.toList.map (s.ev tt 0)) s' K') (.quiet hx hall) fun s'' K' he h' => ?_
        unfold aop; simp only [hop, hty, hce]
        rw [he _ f (by simp [hop, Op.operands, Call.operands, hce]), hf, hargs s'' he]; exact h'
      · rename_i g caps hf
        obtain ⟨x, hx, hall⟩ := hcd _ _ _ _ h
        refine .of (KF := fun s' K' => call .dflt g (c.args.toList.map (s.ev tt 0) ++ caps) s' K') (.quiet hx hall) fun s'' K' he h' => ?_
        unfold aop; simp only [hop, hty, hce]
        rw [he _ f (by simp [hop, Op.operands, Call.operands, hce]), hf, hargs s'' he]; exact h'
      · exact h.elim
    | invoke r m => rw [hce] at h; exact h.elim
  all_goals exact h.elim

theorem vq_ne4 (x : TV) : vq x ≠ 4 := by
  cases x <;> exact fun e => by cases e

theorem vqs_ne4 : ∀ l : List TV, vqs l ≠ 4
  | [] => fun e => by cases e
  | .v _ :: l => vqs_ne4 l
  | .ptr _ _ _ _ :: _ => fun e => by cases e
  | .arr _ _ _ _ :: _ => fun e => by cases e
  | .mapr _ :: _ => fun e => by cases e
  | .clo _ _ :: _ => fun e => by cases e
  | .iter _ :: _ => fun e => by cases e
  | .bsl _ _ :: _ => fun e => by cases e
  | .agg _ :: _ => fun e => by cases e
  | .tup _ :: _ => fun e => by cases e

theorem cls_four (h : cls tt md o s = 4) : ∃ c cd l tk r, o.op = .call c ∧ c.callee = .builtin .append ∧ c.args.toList.map (s.ev tt 0) = .v (.list cd l tk) :: r := by
  unfold cls at h
  cases hop : o.op <;> rw [hop] at h <;> dsimp only at h
  case call c =>
    cases hce : c.callee with
    | builtin b =>
      rw [hce] at h
      cases b <;> dsimp only at h <;> first
        | exact absurd h (vqs_ne4 _)
        | (split at h
           · rename_i cd l tk r he
             exact ⟨c, cd, l, tk, r, rfl, hce, he⟩
           · cases h)
    | value f => rw [hce] at h; dsimp only at h; split at h <;> cases h
    | invoke r m => rw [hce] at h; cases h
  all_goals first
    | cases h
    | exact absurd h (vq_ne4 _)
    | (split at h <;> cases h)

theorem aop_runA (h4 : cls tt md o s = 4) (h : aop tt call md o s K) : RunEA tt call md o s K := by
  obtain ⟨c, cd, l0, tk, r, hop, hce, hargs0⟩ := cls_four h4
  unfold aop at h
  split at h
  case h_1 => exact h.elim
  rename_i hty
  rw [hop] at h hty
  dsimp only at h
  rw [hce] at h
  dsimp only at h
  have hargs : ∀ s'', EvEq tt o s s'' → c.args.toList.map (s''.ev tt 0) = c.args.toList.map (s.ev tt 0) := fun s'' he =>
    map_congr fun z hz => he 0 z (by rw [hop]; simp [Op.operands, Call.operands, Array.mem_toList_iff.1 hz])
  obtain ⟨z, hz1, hz2⟩ : ∃ z, z ∈ c.args.toList ∧ s.ev tt 0 z = .v (.list cd l0 tk) := by
    cases ha : c.args.toList with
    | nil => rw [ha] at hargs0; simp at hargs0
    | cons z rest => rw [ha] at hargs0; exact ⟨z, List.mem_cons_self .., (List.cons.inj hargs0).1⟩
  rw [hargs0] at h
  unfold builtinK at h
  split at h <;> first
    | (rename_i hb _; cases hb; done)
    | skip
  · rename_i x y hb hxy
    have hx := (List.cons.inj hxy).1
    subst hx
    split at h
    · rename_i t t2 hts
      obtain ⟨cd', l, h1, h2, h3⟩ := run_appendA h
      refine ⟨z, cd, l0, cd', l, tk, by rw [hop]; simp [Op.operands, Call.operands, Array.mem_toList_iff.1 hz1], hz2, h1, h2, fun s'' K' he ho h' => ?_⟩
      unfold aop; simp only [hop, hty, hce]
      rw [hargs s'' he, hargs0, hts, (List.cons.inj hxy).2]
      exact h3 s'' K' ho h'
    · exact h.elim
  all_goals exact h.elim

end
end Go.Proofs.Ytaaedebknacheaa.AB

set_option linter.unusedVariables false
set_option linter.unusedSimpArgs false
namespace Go.Proofs.Ytaaedebknacheaa.AB
open Go

/-- what is listed holds what it stands behind -/
def Closed (ops : Array Oper) (S : Nat → Prop) : Prop := ∀ k o, S k → ops[k]? = some o → ∀ e ∈ o.after, Region.binds .any e = true → S e.on

def RowOK (ops : Array Oper) (k row : Nat) : Prop := ∀ (S : Nat → Prop) o, Closed ops S → ops[k]? = some o → (∀ e ∈ o.after, Region.binds .any e = true → S e.on) →
  ∀ j, Nat.testBit row j = true → S j

theorem ancRow_ok {ops : Array Oper} {rows : List Nat} {S : Nat → Prop} (hS : Closed ops S) (hrows : ∀ k row, rows[k]? = some row → RowOK ops k row)
    (hsz : rows.length ≤ ops.size) : ∀ (l : List Edge), (∀ e ∈ l, Region.binds .any e = true → S e.on) →
    ∀ j, Nat.testBit (ancRow rows l) j = true → S j
  | [], _, j, h => by simp [ancRow] at h
  | e :: r, he, j, h => by
    have ih := ancRow_ok hS hrows hsz r (fun e he' => he e (List.mem_cons_of_mem _ he')) j
    unfold ancRow at h
    cases hb : Region.binds .any e with
    | false => rw [hb] at h; exact ih h
    | true =>
      rw [hb] at h
      have hse := he e (List.mem_cons_self ..) hb
      have h : Nat.testBit ((2 ^ e.on ||| rows.getD e.on 0) ||| ancRow rows r) j = true := h
      rw [Nat.testBit_or, Nat.testBit_or, Bool.or_eq_true, Bool.or_eq_true] at h
      rcases h with (h | h) | h
      · rw [Nat.testBit_two_pow] at h
        have : e.on = j := by simpa using h
        exact this ▸ hse
      · cases hr : rows[e.on]? with
        | none => simp [List.getD, hr] at h
        | some row =>
          have h : Nat.testBit row j = true := by simpa [List.getD, hr] using h
          have hlt : e.on < ops.size := by
            have := (List.getElem?_eq_some_iff.1 hr).1
            omega
          have ho : ops[e.on]? = some ops[e.on] := Array.getElem?_eq_getElem hlt
          exact hrows e.on row hr S _ hS ho (hS e.on _ hse ho) j h
      · exact ih h

theorem pairsOK_get {ops : Array Oper} {row : Nat} {o : Oper} {c : Nat} : ∀ (prev : List (Oper × Nat)) (j : Nat), pairsOK ops row o c j prev = true →
    ∀ (k : Nat) p, prev[k]? = some p → Nat.testBit row (j + k) = true ∨ (p.1.apart ops o = true ∧ compat p.2 c = true)
  | [], j, h, k, p, hk => by simp at hk
  | q :: r, j, h, k, p, hk => by
    unfold pairsOK at h
    rw [Bool.and_eq_true, Bool.or_eq_true, Bool.and_eq_true] at h
    cases k with
    | zero => simp at hk; subst hk; exact h.1
    | succ k =>
      rw [List.getElem?_cons_succ] at hk
      have := pairsOK_get r (j + 1) h.2 k p hk
      rwa [Nat.add_assoc, Nat.add_comm 1 k] at this

/-- what the check shows -/
structure DrawS (ops : Array Oper) (cl : List Nat) (rows : List Nat) (n : Nat) : Prop where
  edge : ∀ i o, i < n → ops[i]? = some o → ∀ e ∈ o.after, Region.binds .any e = true → e.on < i
  row : ∀ k row, rows[k]? = some row → RowOK ops k row
  pair : ∀ j i oj oi, j < i → i < n → ops[j]? = some oj → ops[i]? = some oi → Nat.testBit (rows.getD i 0) j = true ∨ (oj.apart ops oi = true ∧ compat (cl.getD j 0) (cl.getD i 0) = true)

theorem drawGo_spec {ops : Array Oper} : ∀ (l : List Oper) (cs : List Nat) (prev : List (Oper × Nat)) (rows : List Nat), drawGo ops prev rows l cs = true →
    prev.map (·.1) ++ l = ops.toList → rows.length = prev.length → DrawS ops (prev.map (·.2) ++ cs) rows prev.length → ∃ rows', DrawS ops (prev.map (·.2) ++ cs) rows' (prev.length + cs.length)
  | [], [], prev, rows, _, h1, h2, h => ⟨rows, h⟩
  | [], _ :: _, prev, rows, h0, _, _, _ => by simp [drawGo] at h0
  | _ :: _, [], prev, rows, h0, _, _, h => ⟨rows, h⟩
  | o :: r, c :: cs, prev, rows, h0, h1, h2, h => by
    unfold drawGo at h0
    rw [Bool.and_eq_true, Bool.and_eq_true] at h0
    obtain ⟨⟨he, hp⟩, hgo⟩ := h0
    have hsz : ops.size = prev.length + (r.length + 1) := by rw [← Array.length_toList, ← h1]; simp
    have hat : ops[prev.length]? = some o := by
      rw [← Array.getElem?_toList, ← h1, List.getElem?_append_right (by simp)]; simp
    have hprev : ∀ (j : Nat) oj, j < prev.length → ops[j]? = some oj → prev[j]? = some (oj, (prev.map (·.2) ++ c :: cs).getD j 0) := by
      intro j oj hj ho
      rw [← Array.getElem?_toList, ← h1, List.getElem?_append_left (by simpa using hj), List.getElem?_map] at ho
      have hx : prev[j]? = some prev[j] := List.getElem?_eq_getElem hj
      rw [hx] at ho
      simp only [Option.map_some, Option.some.injEq] at ho
      rw [hx]
      simp only [List.getD, List.getElem?_append_left (show j < (prev.map (·.2)).length by simpa using hj), List.getElem?_map, hx, Option.map_some, Option.getD_some, ← ho]
    have heq : (prev ++ [(o, c)]).map (·.2) ++ cs = prev.map (·.2) ++ c :: cs := by simp
    have hedge : ∀ e ∈ o.after, Region.binds .any e = true → e.on < prev.length := by
      intro e hm hb
      have := List.all_eq_true.1 he e (Array.mem_toList_iff.2 hm)
      rw [hb] at this
      simp only [Bool.not_true, Bool.false_or] at this
      rw [← h2]
      rwa [Nat.blt_eq] at this
    have := drawGo_spec r cs (prev ++ [(o, c)]) (rows ++ [ancRow rows o.after.toList]) hgo (by simpa using h1) (by simp [h2]) (by
      rw [heq]
      refine ⟨?_, ?_, ?_⟩
      · intro i o' hi ho' e hm hb
        simp only [List.length_append, List.length_cons, List.length_nil] at hi
        rcases Nat.lt_or_ge i prev.length with hi' | hi'
        · exact h.edge i o' hi' ho' e hm hb
        · have : i = prev.length := by omega
          subst this
          rw [hat] at ho'; cases ho'
          exact hedge e hm hb
      · intro k row hk
        rcases Nat.lt_or_ge k rows.length with hk' | hk'
        · rw [List.getElem?_append_left hk'] at hk
          exact h.row k row hk
        · rw [List.getElem?_append_right hk'] at hk
          have hk0 : k - rows.length = 0 := by
            have := (List.getElem?_eq_some_iff.1 hk).1
            simp at this; omega
          have hkk : k = prev.length := by omega
          subst hkk
          rw [hk0] at hk
          simp at hk
          subst hk
          intro S o' hS ho' hd j hj
          rw [hat] at ho'; cases ho'
          exact ancRow_ok hS h.row (by omega) o.after.toList (fun e he => hd e (Array.mem_toList_iff.1 he)) j hj
      · intro j i oj oi hji hi hoj hoi
        simp only [List.length_append, List.length_cons, List.length_nil] at hi
        rcases Nat.lt_or_ge i prev.length with hi' | hi'
        · have := h.pair j i oj oi hji hi' hoj hoi
          have hg : (rows ++ [ancRow rows o.after.toList]).getD i 0 = rows.getD i 0 := by
            simp only [List.getD]; rw [List.getElem?_append_left (by omega)]
          rw [hg]; exact this
        · have hii : i = prev.length := by omega
          subst hii
          rw [hat] at hoi; cases hoi
          have hg : (rows ++ [ancRow rows o.after.toList]).getD prev.length 0 = ancRow rows o.after.toList := by
            simp only [List.getD]; rw [List.getElem?_append_right (by omega)]; simp [h2]
          have hc : (prev.map (·.2) ++ c :: cs).getD prev.length 0 = c := by
            simp only [List.getD]; rw [List.getElem?_append_right (by simp)]; simp
          rw [hg, hc]
          have := pairsOK_get prev 0 hp j _ (hprev j oj hji hoj)
          rwa [Nat.zero_add] at this)
    rw [heq] at this
    have e : (prev ++ [(o, c)]).length + cs.length = prev.length + (c :: cs).length := by simp; omega
    rw [e] at this
    exact this

theorem drawOK_spec {ops : Array Oper} {cl : List Nat} (h : drawOK ops cl = true) : ∃ rows, DrawS ops cl rows cl.length := by
  have := drawGo_spec ops.toList cl [] [] h rfl rfl ⟨fun _ _ hi => (Nat.not_lt_zero _ hi).elim, fun k row hk => by simp at hk, fun _ _ _ _ _ hi => (Nat.not_lt_zero _ hi).elim⟩
  simpa using this

theorem allBits_spec {row : Nat} : ∀ (k : Nat), allBits row k = true → ∀ j, j < k → Nat.testBit row j = true
  | 0, _, j, hj => (Nat.not_lt_zero _ hj).elim
  | k + 1, h, j, hj => by
    unfold allBits at h
    rw [Bool.and_eq_true] at h
    rcases Nat.lt_or_ge j k with h' | h'
    · exact allBits_spec k h.2 j h'
    · have : j = k := by omega
      subst this; exact h.1

/-- from b on each stands behind all ahead of it -/
structure TailS (ops : Array Oper) (b : Nat) : Prop where
  edge : ∀ i o, b ≤ i → ops[i]? = some o → ∀ e ∈ o.after, Region.binds .any e = true → e.on < i
  all : ∀ i o, b ≤ i → ops[i]? = some o → ∀ (S : Nat → Prop), Closed ops S → (∀ e ∈ o.after, Region.binds .any e = true → S e.on) → ∀ j, j < i → S j

theorem tailGo_spec {ops : Array Oper} {b : Nat} : ∀ (l : List Oper) (rows : List Nat) (pre : List Oper), tailGo b rows l = true → pre ++ l = ops.toList → rows.length = pre.length →
    (∀ k row, rows[k]? = some row → RowOK ops k row) → ∀ k o, l[k]? = some o → b ≤ rows.length + k →
    (∀ e ∈ o.after, Region.binds .any e = true → e.on < rows.length + k) ∧ ∀ (S : Nat → Prop), Closed ops S → (∀ e ∈ o.after, Region.binds .any e = true → S e.on) → ∀ j, j < rows.length + k → S j
  | [], rows, pre, _, _, _, _, k, o, hk, _ => by simp at hk
  | o :: r, rows, pre, h, h1, h2, hrow, k, o', hk, hb => by
    unfold tailGo at h
    rw [Bool.and_eq_true] at h
    have hsz : ops.size = pre.length + (r.length + 1) := by rw [← Array.length_toList, ← h1]; simp
    have hat : ops[pre.length]? = some o := by
      rw [← Array.getElem?_toList, ← h1, List.getElem?_append_right (by simp)]; simp
    cases k with
    | zero =>
      simp only [List.getElem?_cons_zero, Option.some.injEq] at hk
      subst hk
      obtain ⟨h3, _⟩ := h
      rw [Bool.or_eq_true] at h3
      rcases h3 with h3 | h3
      · rw [Nat.blt_eq] at h3; omega
      · rw [Bool.and_eq_true] at h3
        refine ⟨fun e hm hbe => ?_, fun S hS hd j hj => ?_⟩
        · have := List.all_eq_true.1 h3.1 e (Array.mem_toList_iff.2 hm)
          rw [hbe] at this
          simp only [Bool.not_true, Bool.false_or] at this
          rwa [Nat.blt_eq] at this
        · exact ancRow_ok hS hrow (by omega) o.after.toList (fun e he => hd e (Array.mem_toList_iff.1 he)) j (allBits_spec _ h3.2 j hj)
    | succ k =>
      rw [List.getElem?_cons_succ] at hk
      have := tailGo_spec r (rows ++ [ancRow rows o.after.toList]) (pre ++ [o]) h.2 (by simpa using h1) (by simp [h2]) (fun k row hk => by
        rcases Nat.lt_or_ge k rows.length with hk' | hk'
        · rw [List.getElem?_append_left hk'] at hk
          exact hrow k row hk
        · rw [List.getElem?_append_right hk'] at hk
          have hk0 : k - rows.length = 0 := by
            have := (List.getElem?_eq_some_iff.1 hk).1
            simp at this; omega
          have hkk : k = pre.length := by omega
          subst hkk
          rw [hk0] at hk
          simp at hk
          subst hk
          intro S o' hS ho' hd j hj
          rw [hat] at ho'; cases ho'
          exact ancRow_ok hS hrow (by omega) o.after.toList (fun e he => hd e (Array.mem_toList_iff.1 he)) j hj) k o' hk (by simp; omega)
      have e : (rows ++ [ancRow rows o.after.toList]).length + k = rows.length + (k + 1) := by simp; omega
      rw [e] at this
      exact this

theorem tailOK_spec {ops : Array Oper} {b : Nat} (h : tailOK ops b = true) : TailS ops b := by
  have key := fun i o (hb : b ≤ i) (ho : ops[i]? = some o) => tailGo_spec ops.toList [] [] h rfl rfl (fun k row hk => by simp at hk) i o (by rw [Array.getElem?_toList]; exact ho) (by simpa using hb)
  simp only [List.length_nil, Nat.zero_add] at key
  exact ⟨fun i o hb ho => (key i o hb ho).1, fun i o hb ho => (key i o hb ho).2⟩

theorem tailS_end (ops : Array Oper) {b : Nat} (h : ops.size ≤ b) : TailS ops b :=
  ⟨fun i o hb ho => absurd (Array.getElem?_eq_some_iff.1 ho).1 (by omega), fun i o hb ho => absurd (Array.getElem?_eq_some_iff.1 ho).1 (by omega)⟩

end Go.Proofs.Ytaaedebknacheaa.AB

set_option linter.unusedVariables false
set_option linter.unusedSimpArgs false
namespace Go.Proofs.Ytaaedebknacheaa.AB
open Go

abbrev tu : TV := .v .undef
/-- the slot of an operation that was skipped -/
abbrev tg : TV := .v (.tup [])

/-- the same to memory -/
def Req (x y : TV) : Prop := ∀ G v, TR G x v ↔ TR G y v

theorem Req.refl (x : TV) : Req x x := fun _ _ => Iff.rfl
theorem Req.symm {x y : TV} (h : Req x y) : Req y x := fun G v => (h G v).symm
theorem Req.trans {x y z : TV} (h : Req x y) (k : Req y z) : Req x z := fun G v => (h G v).trans (k G v)

theorem req_tt : Req (.v (.bool true)) (.v .tt) := fun G v => ⟨fun h => by
  cases h with
  | v _ _ h => cases h; exact .v _ _ .tt, fun h => by
  cases h with
  | v _ _ h => cases h; exact .v _ _ (.bool true)⟩

theorem req_ff : Req (.v (.bool false)) (.v .ff) := fun G v => ⟨fun h => by
  cases h with
  | v _ _ h => cases h; exact .v _ _ .ff, fun h => by
  cases h with
  | v _ _ h => cases h; exact .v _ _ (.bool false)⟩

/-- a step in the order of the text -/
structure StepOK (tt : TT) (call : CallP) (md : Md) (ops : Array Oper) (o : Oper) (s p s' : St) (x : TV) (w : Bool) (c : Nat) (tk : Tok) : Prop where
  hp : p.hp = s.hp
  T : p.T = s.T
  len : p.tm.length = s.tm.length
  req : ∀ t, Req (s.tm.getD t tu) (p.tm.getD t tu)
  guard : ∀ j want, o.guard = some (j, want) → ∃ t b, (ops[j]?).bind (·.dst) = some t ∧ ((p.tm.getD t tu = .v (cond b .tt .ff) ∧ w = (b == want)) ∨ (p.tm.getD t tu = tg ∧ w = false))
  free : o.guard = none → w = true
  tm : s'.tm = match o.dst with
    | some d => p.tm.set d x
    | none => p.tm
  run : w = true → c ≠ 4 → ∀ s'' K', EvEq tt o p s'' → ((c = 0 ∧ K' x s'') ∨ (s''.hp = s.hp ∧ K' x ⟨s''.tm, s'.hp, s''.T⟩)) → aop tt call md o s'' K'
  skip : w = false → x = tg ∧ c = 0
  calm : c ≠ 2 → s'.hp = s.hp
  calmT : c ≠ 4 → s'.T = s.T
  app : c = 4 → ∃ (z : Operand) (cd : Cd) (l0 : List cd.T) (cd' : Cd) (l : List cd'.T), z ∈ o.op.operands ∧ p.ev tt 0 z = .v (.list cd l0 tk) ∧ tk.own s.T.l ∧ x = .v (.list cd' l (.tk s.T.n)) ∧
    s'.T = ⟨s.T.n + 1, s.T.n :: tk.drop s.T.l⟩ ∧
    ∀ s'' K', EvEq tt o p s'' → tk.own s''.T.l → K' (.v (.list cd' l (.tk s''.T.n))) ⟨s''.tm, s''.hp, ⟨s''.T.n + 1, s''.T.n :: tk.drop s''.T.l⟩⟩ → aop tt call md o s'' K'
  grow : s.hp.length ≤ s'.hp.length
  few : c < 3 ∨ c = 4

theorem getD_set {l : List TV} {d t : Nat} {x : TV} : (l.set d x).getD t tu = if d = t ∧ d < l.length then x else l.getD t tu := by
  simp only [List.getD, List.getElem?_set]
  split
  · rename_i e
    subst e
    split
    · rename_i hl; simp [hl]
    · rename_i hl
      simp only [hl, and_false, if_false]
      rw [List.getElem?_eq_none (by omega)]
  · rename_i e
    simp [e]

section
variable {tt : TT} {call : CallP} {mds : Mds} {rid : Nat} {ops : Array Oper} {K : St → Prop}

/-- the guard, taken apart -/
theorem guard_trace {o : Oper} {s : St} {run skip : St → Prop} (h : guardK ops s o.guard run skip) :
    ∃ p w, p.hp = s.hp ∧ p.T = s.T ∧ p.tm.length = s.tm.length ∧ (∀ t, Req (s.tm.getD t tu) (p.tm.getD t tu)) ∧
      (∀ j want, o.guard = some (j, want) → ∃ t b, (ops[j]?).bind (·.dst) = some t ∧ ((p.tm.getD t tu = .v (cond b .tt .ff) ∧ w = (b == want)) ∨ (p.tm.getD t tu = tg ∧ w = false))) ∧ (o.guard = none → w = true) ∧
      (w = true → run p) ∧ (w = false → skip p) := by
  unfold guardK at h
  split at h
  · rename_i hg
    exact ⟨s, true, rfl, rfl, rfl, fun _ => .refl _, fun j want e => (by rw [hg] at e; cases e), fun _ => rfl, fun _ => h, fun e => (by cases e)⟩
  · rename_i j want hg
    split at h
    case h_2 => exact h.elim
    rename_i t ht
    split at h
    · rename_i htt
      refine ⟨s, true == want, rfl, rfl, rfl, fun _ => .refl _, fun j' want' e => ?_, fun e => (by rw [hg] at e; cases e), ?_, ?_⟩
      · rw [hg] at e; cases e; exact ⟨t, true, ht, .inl ⟨htt, rfl⟩⟩
      · cases want <;> intro e <;> first
          | exact h
          | cases e
      · cases want <;> intro e <;> first
          | exact h
          | cases e
    · rename_i htt
      refine ⟨s, false == want, rfl, rfl, rfl, fun _ => .refl _, fun j' want' e => ?_, fun e => (by rw [hg] at e; cases e), ?_, ?_⟩
      · rw [hg] at e; cases e; exact ⟨t, false, ht, .inl ⟨htt, rfl⟩⟩
      · cases want <;> intro e <;> first
          | exact h
          | cases e
      · cases want <;> intro e <;> first
          | exact h
          | cases e
    · rename_i b htt
      have htl : t < s.tm.length := by
        rcases Nat.lt_or_ge t s.tm.length with h' | h'
        · exact h'
        · simp [List.getD, List.getElem?_eq_none h'] at htt
      have hreq : ∀ {y : TV}, Req (.v (.bool b)) y → ∀ t', Req (s.tm.getD t' tu) ((s.tm.set t y).getD t' tu) := by
        intro y hy t'
        rw [getD_set]
        split
        · rename_i e
          obtain ⟨rfl, _⟩ := e
          rw [show s.tm.getD t tu = .v (.bool b) from htt]; exact hy
        · exact .refl _
      cases b
      · have h := h.2 rfl
        refine ⟨s.put (some t) (.v .ff), false == want, rfl, rfl, by simp [St.put], hreq req_ff, fun j' want' e => ?_, fun e => (by rw [hg] at e; cases e), ?_, ?_⟩
        · rw [hg] at e; cases e
          refine ⟨t, false, ht, .inl ⟨?_, rfl⟩⟩
          simp only [St.put]; rw [getD_set, if_pos ⟨rfl, htl⟩]; rfl
        · cases want <;> intro e <;> first
            | exact h
            | cases e
        · cases want <;> intro e <;> first
            | exact h
            | cases e
      · have h := h.1 rfl
        refine ⟨s.put (some t) (.v .tt), true == want, rfl, rfl, by simp [St.put], hreq req_tt, fun j' want' e => ?_, fun e => (by rw [hg] at e; cases e), ?_, ?_⟩
        · rw [hg] at e; cases e
          refine ⟨t, true, ht, .inl ⟨?_, rfl⟩⟩
          simp only [St.put]; rw [getD_set, if_pos ⟨rfl, htl⟩]; rfl
        · cases want <;> intro e <;> first
            | exact h
            | cases e
        · cases want <;> intro e <;> first
            | exact h
            | cases e
    · rename_i htt
      refine ⟨s, false, rfl, rfl, rfl, fun _ => .refl _, fun j' want' e => ?_, fun e => (by rw [hg] at e; cases e), fun e => (by cases e), fun _ => h⟩
      rw [hg] at e; cases e; exact ⟨t, false, ht, .inr ⟨htt, rfl⟩⟩
    · exact h.elim

theorem trace (hcd : CallDet call) : ∀ (l : List Oper) (i : Nat) (fl : List Nat) (s : St), awpD tt call mds rid ops i l fl K s →
    ∃ (st pr : Nat → St) (x : Nat → TV) (w : Nat → Bool) (cl : List Nat) (tk : Nat → Tok), st 0 = s ∧ cl.length ≤ l.length ∧
      (∀ k o, k < cl.length → l[k]? = some o → StepOK tt call (mds.at rid (i + k)) ops o (st k) (pr k) (st (k + 1)) (x k) (w k) (cl.getD k 0) (tk k)) ∧
      drawOK ops (fl.reverse ++ cl) = true ∧ (cl.length < l.length → tailOK ops (i + cl.length) = true) ∧
      ((has4 (cl.reverse ++ fl) = false ∧ awpL tt call mds rid ops (i + cl.length) (l.drop cl.length) K (st cl.length)) ∨
        ∀ m, (st cl.length).T.n ≤ m → awpL tt call mds rid ops (i + cl.length) (l.drop cl.length) K { (st cl.length) with T := ⟨m, (st cl.length).T.l⟩ })
  | [], i, fl, s, h => by
    unfold awpD at h
    split at h
    · rename_i hd
      refine ⟨fun _ => s, fun _ => s, fun _ => tu, fun _ => true, [], fun _ => .no, rfl, Nat.le_refl _, fun k o hk => (Nat.not_lt_zero _ hk).elim, by simpa using hd, fun h => absurd h (Nat.lt_irrefl _), ?_⟩
      split at h
      · exact .inr h
      · rename_i h4
        exact .inl ⟨by simpa using h4, h⟩
    · exact h.elim
  | o :: r, i, fl, s, h => by
    unfold awpD at h
    split at h
    · split at h
      · rename_i hd
        rw [Bool.and_eq_true] at hd
        refine ⟨fun _ => s, fun _ => s, fun _ => tu, fun _ => true, [], fun _ => .no, rfl, Nat.zero_le _, fun k o hk => (Nat.not_lt_zero _ hk).elim, by simpa using hd.2, fun _ => hd.1, ?_⟩
        split at h
        · exact .inr h
        · rename_i h4
          exact .inl ⟨by simpa using h4, h⟩
      · exact h.elim
    obtain ⟨p, w, hp, hT, hlen, hreq, hg, hfree, hrun, hskip⟩ := guard_trace h
    have key : ∃ s' x c tk, StepOK tt call (mds.at rid i) ops o s p s' x w c tk ∧ awpD tt call mds rid ops (i + 1) r (c :: fl) K s' := by
      cases w with
      | true =>
        have h := hrun rfl
        split at h
        case h_2 => exact h.elim
        rename_i hlt
        by_cases h4 : cls tt (mds.at rid i) o p = 4
        · obtain ⟨z, cd, l0, cd', l, tk, e1, e2, e3, e4, e5⟩ := aop_runA h4 h
          refine ⟨(⟨p.tm, p.hp, ⟨p.T.n + 1, p.T.n :: tk.drop p.T.l⟩⟩ : St).put o.dst (.v (.list cd' l (.tk p.T.n))), .v (.list cd' l (.tk p.T.n)), cls tt (mds.at rid i) o p, tk,
            ⟨hp, hT, hlen, hreq, hg, hfree, ?_, fun _ hc => absurd h4 hc, fun e => (by cases e), ?_, fun hc => absurd h4 hc, fun _ => ⟨z, cd, l0, cd', l, e1, e2, by rw [← hT]; exact e3, by rw [hT], ?_, e5⟩, ?_, ?_⟩, e4⟩
          · cases o.dst <;> rfl
          · intro _
            cases o.dst <;> exact hp
          · rw [← hT]
            cases o.dst <;> rfl
          · have : s.hp.length ≤ p.hp.length := by rw [hp]; exact Nat.le_refl _
            cases o.dst <;> exact this
          · exact .inr h4
        · obtain ⟨x, hp', h1, h2, h3, h5⟩ := aop_run hcd (by
            intro e3
            rw [e3] at hlt
            cases hlt) h4 h
          refine ⟨(⟨p.tm, hp', p.T⟩ : St).put o.dst x, x, cls tt (mds.at rid i) o p, .no, ⟨hp, hT, hlen, hreq, hg, hfree, ?_, ?_, fun e => (by cases e), ?_, ?_, fun hc => absurd hc h4, ?_, ?_⟩, h1⟩
          · cases o.dst <;> rfl
          · intro _ _ s'' K' he h'
            refine h5 s'' K' he ?_
            rw [hp]
            cases hd : o.dst <;> rw [hd] at h' <;> exact h'
          · intro hc
            have := h2 hc
            rw [hp] at this
            cases o.dst <;> exact this
          · intro _
            cases o.dst <;> exact hT
          · rw [hp] at h3
            cases o.dst <;> exact h3
          · refine .inl (Nat.lt_of_not_le fun hle => ?_)
            have e1 : Nat.blt (cls tt (mds.at rid i) o p) 3 = false := by
              rw [Bool.eq_false_iff]; intro e; rw [Nat.blt_eq] at e; omega
            have e2 : Nat.beq (cls tt (mds.at rid i) o p) 4 = false := by
              rw [Bool.eq_false_iff]; intro e; exact h4 (Nat.eq_of_beq_eq_true e)
            rw [e1, e2] at hlt
            cases hlt
      | false =>
        have h := hskip rfl
        refine ⟨p.put o.dst tg, tg, 0, .no, ⟨hp, hT, hlen, hreq, hg, hfree, ?_, fun e => (by cases e), fun _ => ⟨rfl, rfl⟩, fun _ => ?_, fun _ => ?_, fun e => (by cases e), ?_, ?_⟩, h⟩
        · cases o.dst <;> rfl
        · cases o.dst <;> exact hp
        · cases o.dst <;> exact hT
        · have : s.hp.length ≤ p.hp.length := by rw [hp]; exact Nat.le_refl _
          cases o.dst <;> exact this
        · exact .inl (by decide)
    obtain ⟨s', x, c, tk, hstep, hrest⟩ := key
    obtain ⟨st, pr, xs, ws, cl, tks, h0, hl, hst, hd, htl, hK⟩ := trace hcd r (i + 1) (c :: fl) s' hrest
    have e1 : i + (c :: cl).length = i + 1 + cl.length := by simp; omega
    refine ⟨fun k => match k with | 0 => s | k + 1 => st k, fun k => match k with | 0 => p | k + 1 => pr k, fun k => match k with | 0 => x | k + 1 => xs k,
      fun k => match k with | 0 => w | k + 1 => ws k, c :: cl, fun k => match k with | 0 => tk | k + 1 => tks k, rfl, by simpa using hl, fun k o' hkl hk => ?_, by simpa using hd, fun h => by rw [e1]; exact htl (by simpa using h), ?_⟩
    · cases k with
      | zero =>
        simp at hk
        subst hk
        rw [h0.symm] at hstep
        exact hstep
      | succ k =>
        rw [List.getElem?_cons_succ] at hk
        have := hst k o' (by simpa using hkl) hk
        rw [Nat.add_assoc, Nat.add_comm 1 k] at this
        exact this
    · rw [e1]
      simpa using hK

end
end Go.Proofs.Ytaaedebknacheaa.AB

set_option linter.unusedVariables false
set_option linter.unusedSimpArgs false
namespace Go.Proofs.Ytaaedebknacheaa.AB
open Go

def nFalse : List Bool → Nat
  | [] => 0
  | true :: l => nFalse l
  | false :: l => nFalse l + 1

theorem nFalse_set : ∀ (l : List Bool) (i : Nat), l[i]? = some false → nFalse l = nFalse (l.set i true) + 1
  | [], i, h => by simp at h
  | true :: l, 0, h => by simp at h
  | false :: l, 0, h => rfl
  | true :: l, i + 1, h => nFalse_set l i (by simpa using h)
  | false :: l, i + 1, h => congrArg (· + 1) (nFalse_set l i (by simpa using h))

theorem nFalse_zero : ∀ (l : List Bool), nFalse l = 0 → ∀ i : Nat, l[i]? ≠ some false
  | [], h, i, hi => by simp at hi
  | true :: l, h, 0, hi => by simp at hi
  | true :: l, h, i + 1, hi => nFalse_zero l h i (by simpa using hi)
  | false :: l, h, i, hi => by simp [nFalse] at h

theorem nFalse_replicate : ∀ n, nFalse (List.replicate n false) = n
  | 0 => rfl
  | n + 1 => congrArg (· + 1) (nFalse_replicate n)

def dstAt (ops : Array Oper) (j : Nat) : Option Nat := (ops[j]?).bind (·.dst)

def Cut (n : Nat) (S p : Nat → Prop) (m : Nat) : Prop := m ≤ n ∧ (∀ j, j < m → p j → S j) ∧ (∀ j, m ≤ j → p j → ¬ S j)

def Lst (listed : Array Bool) (j : Nat) : Prop := listed.getD j false = true

theorem lst_set {listed : Array Bool} {i j : Nat} (hi : i < listed.size) : Lst (listed.setIfInBounds i true) j ↔ j = i ∨ Lst listed j := by
  unfold Lst
  by_cases h : i = j
  · subst h
    simp [Array.getD_eq_getD_getElem?, Array.getElem?_setIfInBounds, hi]
  · rw [getD_set_ne false h]
    constructor
    · exact .inr
    · rintro (e | e)
      · exact absurd e.symm h
      · exact e

section
variable {P : Program} {tt : TT} {Mine : Mn} {G : Gh} {s : St} {a : Act} {w : World} {call : CallP} {mds : Mds} {rid h0 : Nat} {ops : Array Oper} {K : St → Prop}
  {st pr : Nat → St} {x : Nat → TV} {ws : Nat → Bool} {cl rows : List Nat} {tk : Nat → Tok}

abbrev Steps (tt : TT) (call : CallP) (mds : Mds) (rid : Nat) (ops : Array Oper) (st pr : Nat → St) (x : Nat → TV) (ws : Nat → Bool) (cl : List Nat) (tk : Nat → Tok) : Prop :=
  ∀ i o, i < cl.length → ops[i]? = some o → StepOK tt call (mds.at rid i) ops o (st i) (pr i) (st (i + 1)) (x i) (ws i) (cl.getD i 0) (tk i)

theorem steps_len (hsz : cl.length ≤ ops.size) (hst : Steps tt call mds rid ops st pr x ws cl tk) : ∀ m, m ≤ cl.length → (st m).tm.length = (st 0).tm.length
  | 0, _ => rfl
  | m + 1, hm => by
    have ho : ops[m]? = some ops[m] := Array.getElem?_eq_getElem (by omega)
    have h := hst m _ (by omega) ho
    rw [h.tm, ← steps_len hsz hst m (by omega), ← h.len]
    split <;> simp

theorem steps_slot (hsz : cl.length ≤ ops.size) (hst : Steps tt call mds rid ops st pr x ws cl tk) {t m : Nat} : ∀ k, m + k ≤ cl.length → (∀ j, m ≤ j → j < m + k → dstAt ops j ≠ some t) →
    Req ((st m).tm.getD t tu) ((st (m + k)).tm.getD t tu)
  | 0, _, _ => .refl _
  | k + 1, hk, hn => by
    have ho : ops[m + k]? = some ops[m + k] := Array.getElem?_eq_getElem (by omega)
    have h := hst (m + k) _ (by omega) ho
    refine (steps_slot hsz hst k (by omega) fun j h1 h2 => hn j h1 (by omega)).trans ((h.req t).trans ?_)
    rw [← Nat.add_assoc, h.tm]
    have hd := hn (m + k) (by omega) (by omega)
    unfold dstAt at hd
    rw [ho] at hd
    split
    · rename_i d e
      rw [getD_set, if_neg ?_]
      · exact .refl _
      · rintro ⟨rfl, _⟩
        exact hd e
    · exact .refl _

theorem steps_heap (hsz : cl.length ≤ ops.size) (hst : Steps tt call mds rid ops st pr x ws cl tk) {m : Nat} : ∀ k, m + k ≤ cl.length → (∀ j, m ≤ j → j < m + k → cl.getD j 0 ≠ 2) →
    (st (m + k)).hp = (st m).hp
  | 0, _, _ => rfl
  | k + 1, hk, hn => by
    have ho : ops[m + k]? = some ops[m + k] := Array.getElem?_eq_getElem (by omega)
    have h := (hst (m + k) _ (by omega) ho).calm (hn (m + k) (by omega) (by omega))
    have ih := steps_heap hsz hst k (by omega) fun j h1 h2 => hn j h1 (by omega)
    rw [← Nat.add_assoc, h]
    exact ih

/-- the numbers of tokens rise -/
theorem steps_tn (hsz : cl.length ≤ ops.size) (hst : Steps tt call mds rid ops st pr x ws cl tk) {m : Nat} : ∀ k, m + k ≤ cl.length → (st m).T.n ≤ (st (m + k)).T.n
  | 0, _ => Nat.le_refl _
  | k + 1, hk => by
    have ho : ops[m + k]? = some ops[m + k] := Array.getElem?_eq_getElem (by omega)
    have h := hst (m + k) _ (by omega) ho
    have ih := steps_tn hsz hst (m := m) k (by omega)
    rw [← Nat.add_assoc]
    by_cases h4 : cl.getD (m + k) 0 = 4
    · obtain ⟨_, _, _, _, _, _, _, _, _, e, _⟩ := h.app h4
      rw [e]
      exact Nat.le_succ_of_le ih
    · rw [h.calmT h4]; exact ih

theorem steps_tn_lt (hsz : cl.length ≤ ops.size) (hst : Steps tt call mds rid ops st pr x ws cl tk) {m m' : Nat} (h : m < m') (hm : m' ≤ cl.length) (h4 : cl.getD m 0 = 4) : (st m).T.n < (st m').T.n := by
  have ho : ops[m]? = some ops[m] := Array.getElem?_eq_getElem (by omega)
  obtain ⟨_, _, _, _, _, _, _, _, _, e, _⟩ := (hst m _ (by omega) ho).app h4
  have := steps_tn hsz hst (m := m + 1) (m' - (m + 1)) (by omega)
  rw [show m + 1 + (m' - (m + 1)) = m' by omega] at this
  rw [e] at this
  exact this

theorem mem_drop {t : Nat} {k : Tok} {l : List Nat} : t ∈ k.drop l ↔ t ∈ l ∧ k ≠ .tk t := by
  cases k with
  | no => simp [Tok.drop]
  | exact => simp [Tok.drop]
  | tk n =>
    simp only [Tok.drop, List.mem_filter, ne_eq, decide_eq_true_eq, Tok.tk.injEq]
    exact and_congr_right fun _ => ⟨fun h e => h e.symm, fun h e => h e.symm⟩

/-- the tokens there are when those of S are done -/
def Mem (st : Nat → St) (tk : Nat → Tok) (cl : List Nat) (n : Nat) (S : Nat → Prop) (t : Nat) : Prop :=
  (t ∈ (st 0).T.l ∨ ∃ j, j < n ∧ cl.getD j 0 = 4 ∧ S j ∧ t = (st j).T.n) ∧ ∀ j, j < n → cl.getD j 0 = 4 → S j → tk j ≠ .tk t

theorem steps_tl (hsz : cl.length ≤ ops.size) (hst : Steps tt call mds rid ops st pr x ws cl tk) (h0 : ∀ t ∈ (st 0).T.l, t < (st 0).T.n) : ∀ m, m ≤ cl.length →
    (∀ t ∈ (st m).T.l, t < (st m).T.n) ∧ ∀ t, t ∈ (st m).T.l → Mem st tk cl cl.length (fun j => j < m) t
  | 0, _ => ⟨h0, fun t ht => ⟨.inl ht, fun j _ _ h => absurd h (Nat.not_lt_zero _)⟩⟩
  | m + 1, hm => by
    obtain ⟨ih1, ih2⟩ := steps_tl hsz hst h0 m (by omega)
    have ho : ops[m]? = some ops[m] := Array.getElem?_eq_getElem (by omega)
    have h := hst m _ (by omega) ho
    have grow : ∀ t, Mem st tk cl cl.length (fun j => j < m) t → (cl.getD m 0 = 4 → tk m ≠ .tk t) → Mem st tk cl cl.length (fun j => j < m + 1) t := by
      rintro t ⟨h1, h2⟩ h3
      refine ⟨h1.imp id fun ⟨j, a, b, c, d⟩ => ⟨j, a, b, Nat.lt_succ_of_lt c, d⟩, fun j a b c => ?_⟩
      rcases Nat.lt_or_ge j m with h' | h'
      · exact h2 j a b h'
      · have : j = m := by omega
        subst this; exact h3 b
    by_cases h4 : cl.getD m 0 = 4
    · obtain ⟨_, _, _, _, _, _, _, hown, _, e, _⟩ := h.app h4
      rw [e]
      have hlt : ∀ j, j ≤ m → cl.getD j 0 = 4 → tk j ≠ .tk (st m).T.n := by
        intro j hj hj4 he
        have hoj : ops[j]? = some ops[j] := Array.getElem?_eq_getElem (by omega)
        obtain ⟨_, _, _, _, _, _, _, hownj, _, _, _⟩ := (hst j _ (by omega) hoj).app hj4
        rw [he] at hownj
        have h1 := (steps_tl hsz hst h0 j (by omega)).1 _ hownj
        have h2 := steps_tn hsz hst (m := j) (m - j) (by omega)
        rw [show j + (m - j) = m by omega] at h2
        omega
      refine ⟨fun t ht => ?_, fun t ht => ?_⟩
      · rcases List.mem_cons.1 ht with rfl | ht
        · exact Nat.lt_succ_self _
        · exact Nat.lt_succ_of_lt (ih1 t (mem_drop.1 ht).1)
      · rcases List.mem_cons.1 ht with rfl | ht
        · exact ⟨.inr ⟨m, hm, h4, Nat.lt_succ_self m, rfl⟩, fun j _ b c => hlt j (by omega) b⟩
        · exact grow t (ih2 t (mem_drop.1 ht).1) fun _ => (mem_drop.1 ht).2
    · rw [h.calmT h4]
      exact ⟨ih1, fun t ht => grow t (ih2 t ht) fun e => absurd e h4⟩
  termination_by m => m

theorem steps_T (hsz : cl.length ≤ ops.size) (hst : Steps tt call mds rid ops st pr x ws cl tk) (h4 : ∀ j, j < cl.length → cl.getD j 0 ≠ 4) : ∀ m, m ≤ cl.length → (st m).T = (st 0).T
  | 0, _ => rfl
  | m + 1, hm => by
    have ho : ops[m]? = some ops[m] := Array.getElem?_eq_getElem (by omega)
    rw [(hst m _ (by omega) ho).calmT (h4 m (by omega))]
    exact steps_T hsz hst h4 m (by omega)

/-- two cuts that say the same of what lies between -/
theorem slot_between (hsz : cl.length ≤ ops.size) (hst : Steps tt call mds rid ops st pr x ws cl tk) {t m m' : Nat} (hm : m ≤ cl.length) (hm' : m' ≤ cl.length)
    (h1 : ∀ j, m ≤ j → j < m' → dstAt ops j ≠ some t) (h2 : ∀ j, m' ≤ j → j < m → dstAt ops j ≠ some t) : Req ((st m).tm.getD t tu) ((st m').tm.getD t tu) := by
  rcases Nat.le_total m m' with h | h
  · obtain ⟨k, rfl⟩ := Nat.le.dest h
    exact steps_slot hsz hst k hm' h1
  · obtain ⟨k, rfl⟩ := Nat.le.dest h
    exact (steps_slot hsz hst k hm h2).symm

theorem heap_between (hsz : cl.length ≤ ops.size) (hst : Steps tt call mds rid ops st pr x ws cl tk) {m m' : Nat} (hm : m ≤ cl.length) (hm' : m' ≤ cl.length)
    (h1 : ∀ j, m ≤ j → j < m' → cl.getD j 0 ≠ 2) (h2 : ∀ j, m' ≤ j → j < m → cl.getD j 0 ≠ 2) : (st m).hp = (st m').hp := by
  rcases Nat.le_total m m' with h | h
  · obtain ⟨k, rfl⟩ := Nat.le.dest h
    exact (steps_heap hsz hst k hm' h1).symm
  · obtain ⟨k, rfl⟩ := Nat.le.dest h
    exact steps_heap hsz hst k hm h2

/-- the tokens of a drawn order -/
def TokI (st : Nat → St) (tk : Nat → Tok) (cl : List Nat) (n : Nat) (S : Nat → Prop) (T' : Toks) (G' : Gh) : Prop :=
  ((∀ j, j < n → cl.getD j 0 ≠ 4) ∧ T' = (st 0).T) ∨
  ((st n).T.n < T'.n ∧ (∀ t, Mem st tk cl n S t → t ∈ T'.l) ∧ (∃ y, G'.tok (st n).T.n = some y) ∧ (∀ j, j < n → cl.getD j 0 = 4 → ¬ S j → G'.tok (st j).T.n = none) ∧ ¬ ∀ j, j < n → cl.getD j 0 ≠ 4)

/-- where a drawn order stands -/
def DI (Mine : Mn) (G : Gh) (h0 : Nat) (w0 : World) (ops : Array Oper) (st : Nat → St) (cl : List Nat) (tk : Nat → Tok) (S : Nat → Prop) (a : Act) (w : World) : Prop :=
  ∃ c m G' T', Rel Mine G' ⟨c, (st m).hp, T'⟩ a w ∧ Cut cl.length S (fun j => cl.getD j 0 = 2) m ∧ c.length = (st 0).tm.length ∧
    (∀ t, ∃ m, Cut cl.length S (fun j => dstAt ops j = some t) m ∧ Req (c.getD t tu) ((st m).tm.getD t tu)) ∧ Fz G G' ∧ Lc h0 G G' ∧ h0 ≤ (st m).hp.length ∧ Stp Mine w0 w ∧ TokI st tk cl cl.length S T' G'

/-- what is known of tokens is known of fewer, and of a higher number -/
theorem Inv.toks' {hp : Hp} {T : Toks} (h : Inv Mine G hp T w) {m : Nat} {l : List Nat} (hm : T.n ≤ m) (hl : ∀ t ∈ l, t ∈ T.l) : Inv Mine G hp ⟨m, l⟩ w :=
  ⟨h.cells, h.mps, h.objs, h.inj, fun t ht => h.toks t (hl t ht), fun t ht => h.tobj t (hl t ht), fun t ht t' ht' => h.tinj t (hl t ht) t' (hl t' ht'), h.lb, h.gens,
    fun n hn => h.tfin n (Nat.le_trans hm hn), h.mine, h.old⟩

/-- a token's place, copied to a number that is free -/
def Gh.copyTok (G : Gh) (k n : Nat) : Gh := { G with tok := fun t => if t = n then G.tok k else G.tok t }

theorem copy_f0 {k n : Nat} (hn : G.tok n = none) : Fz0 G (G.copyTok k n) := by
  refine ⟨fun _ _ _ h => h, fun _ _ h => h, fun t y h => ?_⟩
  simp only [Gh.copyTok]
  rw [if_neg (fun e => by subst e; rw [hn] at h; cases h)]; exact h

theorem Inv.copyTok {hp : Hp} {m k n : Nat} {l : List Nat} (h : Inv Mine G hp ⟨m, k :: l⟩ w) (hn : G.tok n = none) (hnm : n < m) (hk : k ∉ l) : Inv Mine (G.copyTok k n) hp ⟨m, n :: l⟩ w := by
  have hf := copy_f0 (k := k) hn
  have hne : ∀ t ∈ k :: l, t ≠ n := by
    intro t ht e
    subst e
    obtain ⟨_, _, _, h1, _⟩ := h.toks t ht
    rw [hn] at h1; cases h1
  have hold : ∀ t ∈ k :: l, (G.copyTok k n).tok t = G.tok t := fun t ht => by simp only [Gh.copyTok]; rw [if_neg (hne t ht)]
  have hnew : (G.copyTok k n).tok n = G.tok k := by simp [Gh.copyTok]
  refine ⟨h.cells, h.mps, fun i o hi => (h.objs i o hi).keep h.lb hf (.refl _ _) (fun b s c _ => ⟨rfl, id⟩), h.inj, ?_, ?_, ?_, h.lb, h.gens, fun t ht => ?_, h.mine, h.old⟩
  · intro t ht
    rcases List.mem_cons.1 ht with rfl | ht
    · rw [hnew]; exact h.toks k (List.mem_cons_self ..)
    · rw [hold t (List.mem_cons_of_mem _ ht)]; exact h.toks t (List.mem_cons_of_mem _ ht)
  · intro t ht i o b e c s ct h1 h2 h3
    rcases List.mem_cons.1 ht with rfl | ht
    · rw [hnew] at h1; exact h.tobj k (List.mem_cons_self ..) i o b e c s ct h1 h2 h3
    · rw [hold t (List.mem_cons_of_mem _ ht)] at h1; exact h.tobj t (List.mem_cons_of_mem _ ht) i o b e c s ct h1 h2 h3
  · intro t ht t' ht' hne' b e c e' c' h1 h2
    rcases List.mem_cons.1 ht with p | p
    · rcases List.mem_cons.1 ht' with q | q
      · exact hne' (p.trans q.symm)
      · rw [p, hnew] at h1; rw [hold t' (List.mem_cons_of_mem _ q)] at h2
        exact h.tinj k (List.mem_cons_self ..) t' (List.mem_cons_of_mem _ q) (fun e => hk (e ▸ q)) b e c e' c' h1 h2
    · rcases List.mem_cons.1 ht' with q | q
      · rw [q, hnew] at h2; rw [hold t (List.mem_cons_of_mem _ p)] at h1
        exact h.tinj t (List.mem_cons_of_mem _ p) k (List.mem_cons_self ..) (fun e => hk (e ▸ p)) b e c e' c' h1 h2
      · rw [hold t (List.mem_cons_of_mem _ p)] at h1; rw [hold t' (List.mem_cons_of_mem _ q)] at h2
        exact h.tinj t (List.mem_cons_of_mem _ p) t' (List.mem_cons_of_mem _ q) hne' b e c e' c' h1 h2
  · simp only [Gh.copyTok]
    rw [if_neg (by have : m ≤ t := ht; omega)]; exact h.tfin t ht

theorem rel_getD {c : List TV} {hp : Hp} {T : Toks} (hr : Rel Mine G ⟨c, hp, T⟩ a w) (t : Nat) : TR G (c.getD t tu) (a.tmps.getD t Go.undef) := by
  simp only [List.getD]
  cases h : c[t]? with
  | none => exact TR.undef _
  | some y => exact hr.tm t y h

/-- what an operation looks at, put where it stands in the order of the text -/
def seen (l : List Nat) (c p : List TV) : List TV := (List.range c.length).map fun t => if l.contains t then p.getD t tu else c.getD t tu

theorem seen_length (l : List Nat) (c p : List TV) : (seen l c p).length = c.length := by simp [seen]

theorem seen_getD {l : List Nat} {c p : List TV} (hl : p.length = c.length) (t : Nat) : (seen l c p).getD t tu = if l.contains t then p.getD t tu else c.getD t tu := by
  rcases Nat.lt_or_ge t c.length with h | h
  · simp [seen, List.getD, List.getElem?_map, List.getElem?_range h]
  · have h1 : (seen l c p).getD t tu = tu := by
      simp only [List.getD]; rw [List.getElem?_eq_none (by rw [seen_length]; exact h)]; rfl
    have h2 : p.getD t tu = tu := by simp only [List.getD]; rw [List.getElem?_eq_none (by omega)]; rfl
    have h3 : c.getD t tu = tu := by simp only [List.getD]; rw [List.getElem?_eq_none h]; rfl
    rw [h1, h2, h3]; split <;> rfl

theorem seen_rel {l : List Nat} {c p : List TV} {hp : Hp} {T : Toks} (hl : p.length = c.length) (hr : Rel Mine G ⟨c, hp, T⟩ a w)
    (hq : ∀ t, l.contains t = true → Req (c.getD t tu) (p.getD t tu)) : Rel Mine G ⟨seen l c p, hp, T⟩ a w := by
  refine ⟨by rw [← hr.len]; exact seen_length _ _ _, fun t x hx => ?_, hr.defers, hr.inv⟩
  have hx' : (seen l c p).getD t tu = x := by simp only [List.getD]; rw [hx]; rfl
  rw [seen_getD hl] at hx'
  have h := rel_getD hr t
  split at hx'
  · rename_i hc
    rw [← hx']; exact (hq t hc _ _).1 h
  · rw [← hx']; exact h

theorem drawn_step (htt : TTOK P tt) (hcs : CallS P call) (hsz : cl.length ≤ ops.size) (hst : Steps tt call mds rid ops st pr x ws cl tk) (hD : DrawS ops cl rows cl.length) {w0 : World} {i : Nat} {o : Oper}
    {S : Nat → Prop} {Q : Exit → Act → World → Prop} {next : Act → World → Prop} (hin : i < cl.length) (hSn : ∀ j, S j → j < cl.length) (ho : ops[i]? = some o) (hS : Closed ops S) (hi : ¬ S i)
    (hpre : ∀ e ∈ o.after, Region.binds .any e = true → S e.on) (hbase : ∀ t, (st 0).T.n ≤ t → G.tok t = none) (htl0 : ∀ t ∈ (st 0).T.l, t < (st 0).T.n) (h : DI Mine G h0 w0 ops st cl tk S a w)
    (hn : ∀ a w, DI Mine G h0 w0 ops st cl tk (fun j => j = i ∨ S j) a w → next a w) : wpOp P ops Q i next a w := by
  have hstep := hst i o hin ho
  -- nothing that is not bound to this one stands between
  have before : ∀ j oj, j < i → ops[j]? = some oj → ¬ S j → oj.apart ops o = true ∧ compat (cl.getD j 0) (cl.getD i 0) = true := by
    intro j oj hj hoj hnS
    rcases hD.pair j i oj o hj hin hoj ho with hb | hb
    · refine absurd ?_ hnS
      cases hrow : rows[i]? with
      | none => simp [List.getD, hrow] at hb
      | some row =>
        have hb : Nat.testBit row j = true := by simpa [List.getD, hrow] using hb
        exact hD.row i row hrow S o hS ho hpre j hb
    · exact hb
  have after : ∀ j oj, i < j → ops[j]? = some oj → S j → o.apart ops oj = true ∧ compat (cl.getD i 0) (cl.getD j 0) = true := by
    intro j oj hj hoj hSj
    have hjn : j < cl.length := hSn j hSj
    rcases hD.pair i j o oj hj hjn ho hoj with hb | hb
    · refine absurd ?_ hi
      cases hrow : rows[j]? with
      | none => simp [List.getD, hrow] at hb
      | some row =>
        have hb : Nat.testBit row i = true := by simpa [List.getD, hrow] using hb
        exact hD.row j row hrow S oj hS hoj (fun e he hbi => hS j oj hSj hoj e he hbi) i hb
    · exact hb
  have dst_of : ∀ {j t : Nat}, dstAt ops j = some t → ∃ oj, ops[j]? = some oj ∧ oj.dst = some t := by
    intro j t hd
    unfold dstAt at hd
    cases hj : ops[j]? with
    | none => rw [hj] at hd; cases hd
    | some oj => rw [hj] at hd; exact ⟨oj, rfl, hd⟩
  obtain ⟨c, m, G', T', hr, hcut, hclen, hslots, hfz, hlc, hh, hstp, hti⟩ := h
  have hprlen : (pr i).tm.length = c.length := by rw [hstep.len, steps_len hsz hst i (by omega), hclen]
  have hlook : ∀ t, t ∈ o.looksAt ops → Req (c.getD t tu) ((pr i).tm.getD t tu) := by
    intro t ht
    obtain ⟨mt, ⟨hmt, hc1, hc2⟩, hreq⟩ := hslots t
    refine hreq.trans ((slot_between hsz hst hmt (by omega) ?_ ?_).trans (hstep.req t))
    · intro j h1 h2 hd
      obtain ⟨oj, hoj, hdj⟩ := dst_of hd
      have := (before j oj h2 hoj (hc2 j h1 hd)).1
      exact (Oper.apart_spec this).1 t hdj ht
    · intro j h1 h2 hd
      obtain ⟨oj, hoj, hdj⟩ := dst_of hd
      have hSj := hc1 j h2 hd
      rcases Nat.lt_or_ge i j with hlt | hge
      · have := (after j oj hlt hoj hSj).1
        exact (Oper.apart_spec this).2.2 t hdj ht
      · have : j = i := by omega
        subst this; exact hi hSj
  have hr1 := seen_rel (l := o.looksAt ops) (p := (pr i).tm) hprlen hr (fun t ht => hlook t (by simpa using ht))
  have hseq : ∀ t, Req ((seen (o.looksAt ops) c (pr i).tm).getD t tu) (c.getD t tu) := by
    intro t
    rw [seen_getD hprlen]
    split
    · rename_i hc
      exact (hlook t (by simpa using hc)).symm
    · exact .refl _
  have hev : EvEq tt o (pr i) ⟨seen (o.looksAt ops) c (pr i).tm, (st m).hp, T'⟩ := by
    intro ty z hz
    cases z with
    | tmp t =>
      have : t ∈ o.looksAt ops := List.mem_append_left _ (List.mem_filterMap.2 ⟨.tmp t, by simpa using hz, rfl⟩)
      show (seen (o.looksAt ops) c (pr i).tm).getD t tu = (pr i).tm.getD t tu
      rw [seen_getD hprlen, if_pos (by simpa using this)]
    | _ => rfl
  have hwant : Region.wanted o (yielded ops a.tmps) = ws i := by
    unfold Region.wanted
    cases hg : o.guard with
    | none => exact (hstep.free hg).symm
    | some jw =>
      obtain ⟨j, want⟩ := jw
      obtain ⟨t, b, h1, h2⟩ := hstep.guard j want hg
      have ht : t ∈ o.looksAt ops := List.mem_append_right _ (by simp [hg, h1])
      have h4 := (hlook t ht _ _).1 (rel_getD hr t)
      rcases h2 with ⟨h2, h3⟩ | ⟨h2, h3⟩
      · rw [h2] at h4
        have h5 : a.tmps.getD t Go.undef = .bool b := by
          generalize a.tmps.getD t Go.undef = u at h4
          cases b <;> cases h4 with
          | v _ _ h4 => cases h4; rfl
        dsimp only
        rw [yielded_of h1 h5, h3]
        cases b <;> cases want <;> rfl
      · rw [h2] at h4
        have h5 : a.tmps.getD t Go.undef = Go.undef := by
          generalize a.tmps.getD t Go.undef = u at h4
          cases h4 with
          | v _ _ h4 =>
            cases h4 with
            | tup _ vs hl h => cases vs with
              | nil => rfl
              | cons _ _ => simp at hl
        dsimp only
        rw [yielded_gone h1 h5, h3]
        cases want <;> rfl
  -- the slots behind it
  have slots : ∀ (c' : List TV), (∀ t, c'.getD t tu = match o.dst with
      | some d => if d = t ∧ d < c.length then x i else (seen (o.looksAt ops) c (pr i).tm).getD t tu
      | none => (seen (o.looksAt ops) c (pr i).tm).getD t tu) →
      ∀ t, ∃ m, Cut cl.length (fun j => j = i ∨ S j) (fun j => dstAt ops j = some t) m ∧ Req (c'.getD t tu) ((st m).tm.getD t tu) := by
    intro c' hc' t
    by_cases hd : o.dst = some t
    · refine ⟨i + 1, ⟨hin, fun j hj hdj => ?_, fun j hj hdj => ?_⟩, ?_⟩
      · by_cases hji : j = i
        · exact .inl hji
        · refine .inr (Classical.byContradiction fun hnS => ?_)
          obtain ⟨oj, hoj, hdj⟩ := dst_of hdj
          exact (Oper.apart_spec (before j oj (by omega) hoj hnS).1).2.1 t hdj hd
      · rintro (e | hSj)
        · omega
        · obtain ⟨oj, hoj, hdj⟩ := dst_of hdj
          exact (Oper.apart_spec (after j oj (by omega) hoj hSj).1).2.1 t hd hdj
      · rw [hc', hd, hstep.tm, hd]
        dsimp only
        rw [getD_set, hprlen]
        split
        · exact .refl _
        · rename_i hnl
          have hge : c.length ≤ t := by
            rcases Nat.lt_or_ge t c.length with h | h
            · exact absurd ⟨rfl, h⟩ hnl
            · exact h
          have h1 : (seen (o.looksAt ops) c (pr i).tm).getD t tu = tu := by
            simp only [List.getD]; rw [List.getElem?_eq_none (by rw [seen_length]; exact hge)]; rfl
          have h2 : (pr i).tm.getD t tu = tu := by simp only [List.getD]; rw [List.getElem?_eq_none (by omega)]; rfl
          rw [h1, h2]; exact .refl _
    · obtain ⟨mt, ⟨hmt, hc1, hc2⟩, hreq⟩ := hslots t
      refine ⟨mt, ⟨hmt, fun j hj hdj => .inr (hc1 j hj hdj), fun j hj hdj => ?_⟩, ?_⟩
      · rintro (e | hSj)
        · subst e
          obtain ⟨oj, hoj, hdj⟩ := dst_of hdj
          rw [ho] at hoj; cases hoj
          exact hd hdj
        · exact hc2 j hj hdj hSj
      · have : c'.getD t tu = (seen (o.looksAt ops) c (pr i).tm).getD t tu := by
          rw [hc']
          split
          · rename_i d e
            rw [if_neg]
            rintro ⟨rfl, _⟩
            exact hd e
          · rfl
        rw [this]
        exact (hseq t).trans hreq
  -- the tokens behind an operation that appends nothing
  have tiSame : cl.getD i 0 ≠ 4 → ∀ {G1 : Gh}, Fz G' G1 → TokI st tk cl cl.length (fun j => j = i ∨ S j) T' G1 := by
    intro hne G1 hf
    rcases hti with hA | ⟨b1, b2, ⟨y, b3⟩, b4, b5⟩
    · exact .inl hA
    · refine .inr ⟨b1, fun t ⟨h1, h2⟩ => b2 t ⟨h1.imp id fun ⟨j, p, q, r, e⟩ => ⟨j, p, q, ?_, e⟩, fun j p q r => h2 j p q (.inr r)⟩, ⟨y, hf.tok _ _ b3⟩, fun j p q r => ?_, b5⟩
      · rcases r with rfl | r
        · exact absurd q hne
        · exact r
      · exact hf.hole _ _ y (steps_tn_lt hsz hst p (Nat.le_refl _) q) b3 (b4 j p q fun h => r (.inr h))
  have cutSame : cl.getD i 0 ≠ 2 → Cut cl.length (fun j => j = i ∨ S j) (fun j => cl.getD j 0 = 2) m := by
    intro hne
    refine ⟨hcut.1, fun j h1 h2 => .inr (hcut.2.1 j h1 h2), fun j h1 h2 => ?_⟩
    rintro (e | hSj)
    · subst e; exact hne h2
    · exact hcut.2.2 j h1 h2 hSj
  have putget : ∀ (v : TV) (t : Nat), ((match o.dst with
      | some d => (seen (o.looksAt ops) c (pr i).tm).set d v
      | none => seen (o.looksAt ops) c (pr i).tm) : List TV).getD t tu = match o.dst with
      | some d => if d = t ∧ d < c.length then v else (seen (o.looksAt ops) c (pr i).tm).getD t tu
      | none => (seen (o.looksAt ops) c (pr i).tm).getD t tu := by
    intro v t
    split
    · rw [getD_set, seen_length]
    · rfl
  unfold wpOp
  rw [ho]
  dsimp only
  rw [hwant]
  cases hw : ws i with
  | false =>
    rw [if_neg Bool.false_ne_true]
    obtain ⟨hx, hc0⟩ := hstep.skip hw
    have hrel := hr1.put (d := o.dst) (x := tg) (y := Go.undef) (s' := ⟨seen (o.looksAt ops) c (pr i).tm, (st m).hp, T'⟩) TR.gone rfl hr1.inv (.refl _) (.refl _ _)
    refine hn _ _ ⟨(match o.dst with
      | some d => (seen (o.looksAt ops) c (pr i).tm).set d tg
      | none => seen (o.looksAt ops) c (pr i).tm), m, G', T', ?_, cutSame (by rw [hc0]; decide), ?_, slots _ (by rw [hx]; exact putget tg), hfz, hlc, hh, hstp, tiSame (by rw [hc0]; decide) (.refl _)⟩
    · cases hd : o.dst <;> rw [hd] at hrel <;> exact hrel
    · split <;> simp [seen_length, hclen]
  | true =>
    rw [if_pos rfl]
    refine .inl ?_
    have heapAt : (cl.getD i 0 = 1 ∨ cl.getD i 0 = 2) → (st m).hp = (st i).hp := by
      intro hne
      refine heap_between hsz hst hcut.1 (by omega) (fun j h1 h2 h3 => ?_) (fun j h1 h2 h3 => ?_)
      · have hjn : j < cl.length := by omega
        have := (before j _ h2 (Array.getElem?_eq_getElem (show j < ops.size by omega)) (hcut.2.2 j h1 h3)).2
        rw [h3] at this
        rcases hne with e | e <;> rw [e] at this <;> exact absurd this (by decide)
      · have hSj := hcut.2.1 j h2 h3
        have hji : j ≠ i := fun e => hi (e ▸ hSj)
        have hjn : j < cl.length := by have := hcut.1; omega
        have := (after j _ (by omega) (Array.getElem?_eq_getElem (show j < ops.size by omega)) hSj).2
        rw [h3] at this
        rcases hne with e | e <;> rw [e] at this <;> exact absurd this (by decide)
    have hlen' : ∀ (v : TV), ((match o.dst with
      | some d => (seen (o.looksAt ops) c (pr i).tm).set d v
      | none => seen (o.looksAt ops) c (pr i).tm) : List TV).length = (st 0).tm.length := by
      intro v
      split <;> simp [seen_length, hclen]
    by_cases hc4 : cl.getD i 0 = 4
    · obtain ⟨z, cd, l0, cd', l, hz, hzv, hown, hx, hT1, hrun4⟩ := hstep.app hc4
      rcases hti with ⟨hA, _⟩ | ⟨b1, b2, ⟨y, b3⟩, b4, b5⟩
      · exact absurd hc4 (hA i hin)
      have htl := steps_tl hsz hst htl0
      -- the list is ours
      have hown' : (tk i).own T'.l := by
        cases hk : tk i with
        | no => rw [hk] at hown; exact hown
        | exact => trivial
        | tk k =>
          rw [hk] at hown hzv
          obtain ⟨m1, m2⟩ := (htl i (by omega)).2 k hown
          have htr := hr1.ev (tt := tt) 0 z
          rw [hev 0 z hz, hzv] at htr
          have hsome : ∃ q, G'.tok k = some q := by
            generalize a.eval z = u at htr
            cases htr with
            | v _ _ htr => cases htr with
              | list _ _ _ _ _ _ _ _ _ _ _ _ _ ht => obtain ⟨bo, e, _⟩ := ht; exact ⟨_, e⟩
          obtain ⟨q, hq⟩ := hsome
          have k1 : k ∈ (st 0).T.l ∨ ∃ j, j < cl.length ∧ cl.getD j 0 = 4 ∧ S j ∧ k = (st j).T.n := by
            rcases m1 with m1 | ⟨j, p1, p2, p3, p4⟩
            · exact .inl m1
            · refine .inr ⟨j, p1, p2, Classical.byContradiction fun hnS => ?_, p4⟩
              rw [p4, b4 j p1 p2 hnS] at hq; cases hq
          have k2 : ∀ j, j < cl.length → cl.getD j 0 = 4 → S j → tk j ≠ .tk k := by
            intro j p1 p2 p3
            rcases Nat.lt_trichotomy j i with h' | h' | h'
            · exact m2 j p1 p2 h'
            · subst h'; exact absurd p3 hi
            · intro e
              have hoj : ops[j]? = some ops[j] := Array.getElem?_eq_getElem (by omega)
              obtain ⟨_, _, _, _, _, _, _, hownj, _, _, _⟩ := (hst j _ (by omega) hoj).app p2
              rw [e] at hownj
              exact ((htl j (by omega)).2 k hownj).2 i hin hc4 h' hk
          exact b2 k ⟨k1, k2⟩
      have hop := hrun4 ⟨seen (o.looksAt ops) c (pr i).tm, (st m).hp, T'⟩
        (fun y s' => y = .v (.list cd' l (.tk T'.n)) ∧ s' = ⟨seen (o.looksAt ops) c (pr i).tm, (st m).hp, ⟨T'.n + 1, T'.n :: (tk i).drop T'.l⟩⟩) hev hown' ⟨rfl, rfl⟩
      refine aop_sound htt hcs hop hr1 ?_
      rintro y' s' G1 a' w' ⟨rfl, rfl⟩ _ hrel hf hl hlen hs
      have hni : (st i).T.n < (st cl.length).T.n := steps_tn_lt hsz hst hin (Nat.le_refl _) hc4
      have hnone : G1.tok (st i).T.n = none := hf.hole _ _ y hni b3 (b4 i hin hc4 hi)
      have hinv1 : Inv Mine G1 (st m).hp ⟨T'.n + 1, T'.n :: (tk i).drop T'.l⟩ w' := by
        have := hrel.inv
        cases hd : o.dst <;> rw [hd] at this <;> exact this
      have hfresh : T'.n ∉ (tk i).drop T'.l := by
        intro hm
        obtain ⟨_, _, _, e, _⟩ := hr.inv.toks T'.n (mem_drop.1 hm).1
        rw [hr.inv.tfin T'.n (Nat.le_refl _)] at e; cases e
      have hf2 := copy_f0 (k := T'.n) hnone
      refine hn _ _ ⟨(match o.dst with
        | some d => (seen (o.looksAt ops) c (pr i).tm).set d (x i)
        | none => seen (o.looksAt ops) c (pr i).tm), m, G1.copyTok T'.n (st i).T.n, ⟨T'.n + 1, (st i).T.n :: (tk i).drop T'.l⟩, ?_, cutSame (by rw [hc4]; decide), hlen' _, slots _ (putget _), ?_, ?_, hh, hstp.trans hs, ?_⟩
      · refine ⟨?_, fun t y hy => ?_, ?_, hinv1.copyTok hnone (by omega) hfresh⟩
        · have := hrel.len
          cases hd : o.dst <;> rw [hd] at this <;> simpa [St.put] using this
        · -- the slots
          have hlb : Lb (st m).hp.length G1 := hinv1.lb
          cases hd : o.dst with
          | none =>
            rw [hd] at hy hrel
            exact (hrel.tm t y hy).mono hlb hf2 (.refl _ _)
          | some d =>
            rw [hd] at hy hrel
            by_cases hdt : d = t
            · subst hdt
              have hdl : d < (seen (o.looksAt ops) c (pr i).tm).length := by
                have := (List.getElem?_eq_some_iff.1 hy).1; simpa using this
              have hy1 : y = x i := by
                rw [List.getElem?_set_self hdl] at hy; cases hy; rfl
              have h1 := hrel.tm d (.v (.list cd' l (.tk T'.n))) (by
                show ((seen (o.looksAt ops) c (pr i).tm).set d _)[d]? = _
                rw [List.getElem?_set_self hdl])
              rw [hy1, hx]
              generalize a'.tmps.getD d Go.undef = u at h1
              cases h1 with
              | v _ _ h1 => cases h1 with
                | list _ _ _ aa cap b oo vals ha hcap hcc ho' hv ht =>
                  obtain ⟨bo, e1, e2⟩ := ht
                  exact .v _ _ (.list cd' l _ aa cap b oo vals ha hcap hcc ho' (fun j q hq => (hv j q hq).mono hf2) ⟨bo, by simp [Gh.copyTok, e1], e2⟩)
            · refine (hrel.tm t y ?_).mono hlb hf2 (.refl _ _)
              show ((seen (o.looksAt ops) c (pr i).tm).set d _)[t]? = _
              rw [List.getElem?_set_ne hdt] at hy ⊢
              exact hy
        · have := hrel.defers
          exact this
      · have hfz1 := hfz.trans hf
        refine ⟨hfz1.cell, hfz1.mp, fun t q hq => hf2.tok _ _ (hfz1.tok _ _ hq), fun t t' q hlt hq hno => ?_⟩
        have ht' : t' < (st 0).T.n := by
          rcases Nat.lt_or_ge t' (st 0).T.n with h' | h'
          · exact h'
          · rw [hbase t' h'] at hq; cases hq
        have h0i := steps_tn hsz hst (m := 0) i (by omega)
        rw [Nat.zero_add] at h0i
        simp only [Gh.copyTok]
        rw [if_neg (by omega)]
        exact hfz1.hole t t' q hlt hq hno
      · have := hlc.trans (hl.mono hh)
        exact this
      · refine .inr ⟨Nat.lt_succ_of_lt b1, fun t ⟨h1, h2⟩ => ?_, ⟨y, ?_⟩, fun j p q r => ?_, b5⟩
        · by_cases hti : t = (st i).T.n
          · subst hti; exact List.mem_cons_self ..
          · refine List.mem_cons_of_mem _ (mem_drop.2 ⟨b2 t ⟨h1.imp id fun ⟨j, p1, p2, p3, p4⟩ => ⟨j, p1, p2, ?_, p4⟩, fun j p1 p2 p3 => h2 j p1 p2 (.inr p3)⟩, h2 i hin hc4 (.inl rfl)⟩)
            rcases p3 with rfl | p3
            · exact absurd p4 hti
            · exact p3
        · simp only [Gh.copyTok]
          rw [if_neg (by omega)]; exact hf.tok _ _ b3
        · have hji : j ≠ i := fun e => r (.inl e)
          have hne : (st j).T.n ≠ (st i).T.n := by
            rcases Nat.lt_or_gt_of_ne hji with h' | h'
            · have := steps_tn_lt hsz hst h' (by omega) q; omega
            · have := steps_tn_lt hsz hst h' (by omega) hc4; omega
          simp only [Gh.copyTok]
          rw [if_neg hne]
          exact hf.hole _ _ y (steps_tn_lt hsz hst p (Nat.le_refl _) q) b3 (b4 j p q fun h => r (.inr h))
    by_cases hc2 : cl.getD i 0 = 2
    · have e1 := heapAt (.inr hc2)
      have hop := hstep.run hw hc4 ⟨seen (o.looksAt ops) c (pr i).tm, (st m).hp, T'⟩
        (fun y s' => y = x i ∧ s' = ⟨seen (o.looksAt ops) c (pr i).tm, (st (i + 1)).hp, T'⟩) hev (.inr ⟨e1, rfl, rfl⟩)
      refine aop_sound htt hcs hop hr1 ?_
      rintro y s' G1 a' w' ⟨rfl, rfl⟩ _ hrel hf hl hlen hs
      refine hn _ _ ⟨(match o.dst with
        | some d => (seen (o.looksAt ops) c (pr i).tm).set d (x i)
        | none => seen (o.looksAt ops) c (pr i).tm), i + 1, G1, T', ?_, ⟨hin, fun j h1 h2 => ?_, fun j h1 h2 => ?_⟩, hlen' _, slots _ (putget _), hfz.trans hf, hlc.trans (hl.mono hh), Nat.le_trans hh hlen, hstp.trans hs, tiSame hc4 hf⟩
      · cases hd : o.dst <;> rw [hd] at hrel <;> exact hrel
      · by_cases hji : j = i
        · exact .inl hji
        · refine .inr (Classical.byContradiction fun hnS => ?_)
          have := (before j _ (by omega) (Array.getElem?_eq_getElem (by omega)) hnS).2
          rw [h2, hc2] at this
          exact absurd this (by decide)
      · rintro (e | hSj)
        · omega
        · have hjn : j < cl.length := by
            rcases Nat.lt_or_ge j cl.length with h | h
            · exact h
            · have := hcut.2.2 j (by have := hcut.1; omega) h2 hSj
              exact this.elim
          have := (after j _ (by omega) (Array.getElem?_eq_getElem (show j < ops.size by omega)) hSj).2
          rw [h2, hc2] at this
          exact absurd this (by decide)
    · have hop : aop tt call (mds.at rid i) o ⟨seen (o.looksAt ops) c (pr i).tm, (st m).hp, T'⟩
        (fun y s' => y = x i ∧ s' = ⟨seen (o.looksAt ops) c (pr i).tm, (st m).hp, T'⟩) := by
        by_cases hc0 : cl.getD i 0 = 0
        · exact hstep.run hw hc4 _ _ hev (.inl ⟨hc0, rfl, rfl⟩)
        · by_cases hc1 : cl.getD i 0 = 1
          · have e1 := heapAt (.inl hc1)
            have e3 := hstep.calm hc2
            exact hstep.run hw hc4 _ _ hev (.inr ⟨e1, rfl, by rw [e3, e1]⟩)
          · rcases hstep.few with e | e <;> omega
      refine aop_sound htt hcs hop hr1 ?_
      rintro y s' G1 a' w' ⟨rfl, rfl⟩ _ hrel hf hl hlen hs
      refine hn _ _ ⟨(match o.dst with
        | some d => (seen (o.looksAt ops) c (pr i).tm).set d (x i)
        | none => seen (o.looksAt ops) c (pr i).tm), m, G1, T', ?_, cutSame hc2, hlen' _, slots _ (putget _), hfz.trans hf, hlc.trans (hl.mono hh), hh, hstp.trans hs, tiSame hc4 hf⟩
      cases hd : o.dst <;> rw [hd] at hrel <;> exact hrel

end
end Go.Proofs.Ytaaedebknacheaa.AB

set_option linter.unusedVariables false
set_option linter.unusedSimpArgs false
namespace Go.Proofs.Ytaaedebknacheaa.AB
open Go

theorem Inv.world {Mine : Mn} {G : Gh} {hp : Hp} {T : Toks} {w w' : World} (h : w'.heap = w.heap) (hi : Inv Mine G hp T w) : Inv Mine G hp T w' := by
  refine ⟨fun b o v hc => ?_, fun r es hm => ?_, fun i o ho => ?_, hi.inj, fun t ht => ?_, hi.tobj, hi.tinj, hi.lb, hi.gens, hi.tfin, fun b hb => hi.mine b (by rw [← h]; exact hb), hi.old⟩
  · have := hi.cells b o v hc
    unfold World.cell? at this ⊢
    rw [h]; exact this
  · rw [h]; exact hi.mps r es hm
  · have := hi.objs i o ho
    unfold OR at this ⊢
    rw [h]; exact this
  · rw [h]; exact hi.toks t ht

theorem has4_false : ∀ (l : List Nat), has4 l = false ↔ ∀ c ∈ l, c ≠ 4
  | [] => by simp [has4]
  | c :: l => by
    unfold has4
    cases h : Nat.beq c 4 with
    | true =>
      have := Nat.eq_of_beq_eq_true h
      subst this
      simp
    | false =>
      have h' : c ≠ 4 := fun e => by subst e; cases h
      simp only [has4_false l, List.mem_cons, forall_eq_or_imp]
      exact ⟨fun k => ⟨h', k⟩, fun k => k.2⟩

theorem nFalse_count : ∀ (l : List Bool) (n : Nat), n ≤ l.length → (∀ k, k < n → l[k]? = some true) → (∀ k, n ≤ k → k < l.length → l[k]? = some false) → n + nFalse l = l.length
  | [], n, h, _, _ => by simp at h; subst h; rfl
  | b :: l, 0, _, _, h2 => by
    have := h2 0 (Nat.le_refl _) (by simp)
    simp at this
    subst this
    have := nFalse_count l 0 (Nat.zero_le _) (fun k hk => (Nat.not_lt_zero _ hk).elim) (fun k _ hk => by have := h2 (k + 1) (by omega) (by simpa using hk); simpa using this)
    simp only [nFalse, List.length_cons]
    omega
  | b :: l, n + 1, h, h1, h2 => by
    have := h1 0 (by omega)
    simp at this
    subst this
    have := nFalse_count l n (by simpa using h) (fun k hk => by have := h1 (k + 1) (by omega); simpa using this) (fun k hk hk2 => by have := h2 (k + 1) (by omega) (by simpa using hk2); simpa using this)
    simp only [nFalse, List.length_cons]
    omega

section
variable {P : Program} {tt : TT} {Mine : Mn} {G : Gh} {s : St} {a : Act} {w : World} {call : CallP} {mds : Mds} {rid h0 : Nat} {ops : Array Oper} {K : St → Prop}
  {st pr : Nat → St} {x : Nat → TV} {ws : Nat → Bool} {cl rows : List Nat} {tk : Nat → Tok}

theorem list_mono {ops : Array Oper} {Q Q' : Exit → Act → World → Prop} (h : ∀ e a w, Q e a w → Q' e a w) : ∀ (l : List Oper) (a : Act) (w : World), wpList P ops Q l a w → wpList P ops Q' l a w
  | [], a, w, hw => h _ _ _ hw
  | o :: l, a, w, hw => by
    unfold wpList at hw ⊢
    split
    · rename_i hwt
      rw [if_pos hwt] at hw
      rcases hw with hw | ⟨h1, a0, w0, h2⟩
      · exact .inl (oper_monoQ (fun a w hh => list_mono h l a w hh) h hw)
      · exact .inr ⟨h1, a0, w0, h _ _ _ h2⟩
    · rename_i hwt
      rw [if_neg hwt] at hw
      exact list_mono h l _ _ hw

/-- what stands behind all ahead of it, in its order -/
theorem tail_any {b : Nat} {Q : Exit → Act → World → Prop} (hT : TailS ops b) : ∀ (fuel j : Nat) (listed : Array Bool) (a : Act) (w : World), b ≤ j → j + fuel = ops.size → listed.size = ops.size → (∀ k, Lst listed k ↔ k < j) →
    Closed ops (Lst listed) → wpList P ops Q (ops.toList.drop j) a w → wpAny P .any ops Q fuel listed a w := by
  intro fuel
  induction fuel with
  | zero =>
    intro j listed a w hb hj hsz hl hS hw
    have hd : ops.toList.drop j = [] := by rw [List.drop_eq_nil_iff]; simp; omega
    rw [hd] at hw
    refine ⟨?_, hw⟩
    cases hr : Region.ready .any ops listed with
    | nil => rfl
    | cons i r =>
      have hm : i ∈ Region.ready .any ops listed := by rw [hr]; exact List.mem_cons_self ..
      rw [mem_ready] at hm
      obtain ⟨h1, o, ho, _⟩ := hm
      have hi := (Array.getElem?_eq_some_iff.1 ho).1
      have := (hl i).2 (by omega)
      unfold Lst at this
      have hi' : i < listed.size := by omega
      simp [Array.getD_eq_getD_getElem?, hi'] at this h1
      rw [this] at h1; cases h1
  | succ fuel ih =>
    intro j listed a w hb hj hsz hl hS hw
    have hjs : j < ops.size := by omega
    have hoj : ops[j]? = some ops[j] := Array.getElem?_eq_getElem hjs
    refine ⟨fun hnil => ?_, fun i hm => ?_⟩
    · exfalso
      have hnl : ¬ Lst listed j := fun h => absurd ((hl j).1 h) (Nat.lt_irrefl _)
      have : j ∈ Region.ready .any ops listed := by
        rw [mem_ready]
        refine ⟨?_, _, hoj, fun e he hbe => ?_⟩
        · unfold Lst at hnl
          have hj' : j < listed.size := by omega
          simp [Array.getD_eq_getD_getElem?, hj'] at hnl ⊢
          exact hnl
        · exact (hl e.on).2 (hT.edge j _ hb hoj e he hbe)
      rw [hnil] at this
      cases this
    · rw [mem_ready] at hm
      obtain ⟨h1, o, ho, hpre⟩ := hm
      have hi := (Array.getElem?_eq_some_iff.1 ho).1
      have hi' : i < listed.size := by omega
      have hnS : ¬ Lst listed i := by
        unfold Lst
        simp [Array.getD_eq_getD_getElem?, hi'] at h1 ⊢
        exact h1
      have hij : i = j := by
        have hge : j ≤ i := Nat.le_of_not_lt fun h => hnS ((hl i).2 h)
        rcases Nat.lt_or_ge j i with hlt | hle
        · have := hT.all i o (by omega) ho _ hS hpre j hlt
          exact absurd ((hl j).1 this) (Nat.lt_irrefl _)
        · omega
      subst hij
      rw [hoj] at ho; cases ho
      have hdrop : ops.toList.drop i = ops[i] :: ops.toList.drop (i + 1) := by
        rw [List.drop_eq_getElem_cons (by simpa using hjs)]; simp
      rw [hdrop] at hw
      have next : ∀ a w, wpList P ops Q (ops.toList.drop (i + 1)) a w → wpAny P .any ops Q fuel (listed.setIfInBounds i true) a w := by
        intro a w hw
        refine ih (i + 1) _ a w (by omega) (by omega) (by simpa using hsz) (fun k => ?_) ?_ hw
        · rw [lst_set hi', hl k]; omega
        · intro k o' hk ho' e he hbe
          have hk := (lst_set hi').1 hk
          refine (lst_set hi').2 ?_
          rcases hk with rfl | hk
          · rw [hoj] at ho'; cases ho'
            exact .inr (hpre e he hbe)
          · exact .inr (hS k o' hk ho' e he hbe)
      unfold wpList at hw
      unfold wpOp
      rw [hoj]
      dsimp only
      split
      · rename_i hwt
        rw [if_pos hwt] at hw
        rcases hw with hw | hw
        · exact .inl (oper_monoQ next (fun _ _ _ h => h) hw)
        · exact .inr hw
      · rename_i hwt
        rw [if_neg hwt] at hw
        exact next _ _ hw

theorem drawn_any (htt : TTOK P tt) (hcs : CallS P call) (hsz0 : cl.length ≤ ops.size) (hst : Steps tt call mds rid ops st pr x ws cl tk) (hD : DrawS ops cl rows cl.length) (hT : TailS ops cl.length) {w0 : World}
    (hKA : (∀ j, j < cl.length → cl.getD j 0 ≠ 4) → awpL tt call mds rid ops cl.length (ops.toList.drop cl.length) K (st cl.length))
    (hKB : (¬ ∀ j, j < cl.length → cl.getD j 0 ≠ 4) → ∀ m, (st cl.length).T.n ≤ m → awpL tt call mds rid ops cl.length (ops.toList.drop cl.length) K { (st cl.length) with T := ⟨m, (st cl.length).T.l⟩ })
    (hbase : ∀ t, (st 0).T.n ≤ t → G.tok t = none) (htl0 : ∀ t ∈ (st 0).T.l, t < (st 0).T.n) :
    ∀ (fuel : Nat) (listed : Array Bool) (a : Act) (w : World), nFalse listed.toList = fuel → listed.size = ops.size → (∀ j, Lst listed j → j < cl.length) → Closed ops (Lst listed) → DI Mine G h0 w0 ops st cl tk (Lst listed) a w →
      wpAny P .any ops (Lift Mine G h0 w0 (seqK K (fun _ _ => False))) fuel listed a w := by
  intro fuel
  -- all of the drawn part is listed
  have done : ∀ (fuel : Nat) (listed : Array Bool) (a : Act) (w : World), nFalse listed.toList = fuel → listed.size = ops.size → (∀ j, Lst listed j → j < cl.length) → Closed ops (Lst listed) → (∀ i, i < cl.length → Lst listed i) → DI Mine G h0 w0 ops st cl tk (Lst listed) a w →
      wpAny P .any ops (Lift Mine G h0 w0 (seqK K (fun _ _ => False))) fuel listed a w := by
    rintro fuel listed a w hn hsz hSn hS hall ⟨c, m, G', T', hr, hcut, hclen, hslots, hfz, hlc, hh, hstp, hti⟩
    have hb := heap_between hsz0 hst hcut.1 (Nat.le_refl _) (fun j h1 h2 h3 => hcut.2.2 j h1 h3 (hall j h2)) (fun j h1 h2 => by have := hcut.1; omega)
    have hlen : (st cl.length).tm.length = a.tmps.size := by rw [← hr.len, steps_len hsz0 hst _ (Nat.le_refl _), ← hclen]
    have htm : ∀ t y, (st cl.length).tm[t]? = some y → TR G' y (a.tmps.getD t Go.undef) := fun t y hy => by
      obtain ⟨mt, hct, hreq⟩ := hslots t
      have hbt := slot_between hsz0 hst (t := t) hct.1 (Nat.le_refl _) (fun j h1 h2 h3 => hct.2.2 j h1 h3 (hall j h2)) (fun j h1 h2 => by have := hct.1; omega)
      have hy' : (st cl.length).tm.getD t tu = y := by simp only [List.getD]; rw [hy]; rfl
      rw [← hy']
      exact (hbt _ _).1 ((hreq _ _).1 (rel_getD hr t))
    have hfuel : cl.length + fuel = ops.size := by
      have := nFalse_count listed.toList cl.length (by simpa [hsz] using hsz0) (fun k hk => by
        have := hall k hk
        unfold Lst at this
        have hk' : k < listed.size := by omega
        simp [Array.getD_eq_getD_getElem?, hk'] at this
        simpa [hk'] using this) (fun k hk hk2 => by
        have : ¬ Lst listed k := fun h => by have := hSn k h; omega
        unfold Lst at this
        have hk' : k < listed.size := by simpa using hk2
        simp [Array.getD_eq_getD_getElem?, hk'] at this
        simpa [hk'] using this)
      have e : listed.toList.length = ops.size := by simpa using hsz
      omega
    have go : ∀ s1 : St, awpL tt call mds rid ops cl.length (ops.toList.drop cl.length) K s1 → Rel Mine G' s1 a w → h0 ≤ s1.hp.length →
        wpAny P .any ops (Lift Mine G h0 w0 (seqK K (fun _ _ => False))) fuel listed a w := by
      intro s1 hk hrel hh1
      refine tail_any hT fuel cl.length listed a w (Nat.le_refl _) hfuel hsz (fun k => ⟨hSn k, hall k⟩) hS ?_
      exact list_mono (fun e a w h => Lift.of hfz hlc hstp h) _ _ _ (awpL_sound htt hcs _ _ _ _ _ _ hk hrel hh1)
    rcases hti with ⟨hA, hT⟩ | ⟨b1, b2, _, _, b5⟩
    · refine go _ (hKA hA) ⟨hlen, htm, hr.defers, ?_⟩ (by rw [← hb]; exact hh)
      have := hr.inv
      rw [hb, hT, ← steps_T hsz0 hst hA cl.length (Nat.le_refl _)] at this
      exact this
    · refine go _ (hKB b5 T'.n (by omega)) ⟨hlen, htm, hr.defers, ?_⟩ (by show h0 ≤ (st cl.length).hp.length; rw [← hb]; exact hh)
      have := hr.inv
      rw [hb] at this
      refine this.toks' (Nat.le_refl _) fun t ht => b2 t ?_
      obtain ⟨h1, h2⟩ := (steps_tl hsz0 hst htl0 _ (Nat.le_refl _)).2 t ht
      exact ⟨h1.imp id fun ⟨j, p, q, r, e⟩ => ⟨j, p, q, hall j r, e⟩, fun j p q r => h2 j p q p⟩
  induction fuel with
  | zero =>
    intro listed a w hn hsz hSn hS hdi
    refine done _ listed a w hn hsz hSn hS (fun i hi => ?_) hdi
    have := nFalse_zero _ hn i
    have hi' : i < listed.size := by omega
    unfold Lst
    simp [Array.getD_eq_getD_getElem?, hi'] at this ⊢
    exact this
  | succ fuel ih =>
    intro listed a w hn hsz hSn hS hdi
    by_cases hall : ∀ i, i < cl.length → Lst listed i
    · exact done _ listed a w hn hsz hSn hS hall hdi
    refine ⟨fun hnil => ?_, fun i hm => ?_⟩
    · exfalso
      refine hall fun i => ?_
      induction i using Nat.strongRecOn with
      | ind i ih =>
        intro hi
        by_cases hl : listed.getD i true = false
        · have : i ∈ Region.ready .any ops listed := by
            rw [mem_ready]
            refine ⟨hl, ops[i]'(by omega), Array.getElem?_eq_getElem (by omega), fun e he hb => ?_⟩
            have := hD.edge i _ hi (Array.getElem?_eq_getElem (by omega)) e he hb
            exact ih e.on this (by omega)
          rw [hnil] at this
          cases this
        · unfold Lst
          have hi' : i < listed.size := by omega
          simp [Array.getD_eq_getD_getElem?, hi'] at hl ⊢
          exact hl
    rw [mem_ready] at hm
    obtain ⟨h1, o, ho, hpre⟩ := hm
    have hi := (Array.getElem?_eq_some_iff.1 ho).1
    have hi' : i < listed.size := by omega
    have hnS : ¬ Lst listed i := by
      unfold Lst
      simp [Array.getD_eq_getD_getElem?, hi'] at h1 ⊢
      exact h1
    have hin : i < cl.length := by
      rcases Nat.lt_or_ge i cl.length with h | h
      · exact h
      · exfalso
        exact hall fun j hj => hT.all i o h ho _ hS hpre j (by omega)
    have hset : (fun j => Lst (listed.setIfInBounds i true) j) = fun j => j = i ∨ Lst listed j := by
      funext j
      exact propext (lst_set hi')
    refine drawn_step htt hcs hsz0 hst hD hin hSn ho hS hnS hpre hbase htl0 hdi fun a' w' hdi' => ih _ a' w' ?_ (by simpa using hsz) ?_ ?_ ?_
    · have h2 : listed.toList[i]? = some false := by
        have hi'' : i < listed.toList.length := by simpa using hi'
        simp [Array.getD_eq_getD_getElem?, hi'] at h1
        rw [List.getElem?_eq_getElem hi'']
        simpa using h1
      have := nFalse_set _ _ h2
      rw [Array.toList_setIfInBounds]
      omega
    · intro j hj
      rcases (lst_set hi').1 hj with rfl | hj
      · exact hin
      · exact hSn j hj
    · intro k o' hk ho' e he hb
      have hk := (lst_set hi').1 hk
      refine (lst_set hi').2 ?_
      rcases hk with rfl | hk
      · rw [ho] at ho'; cases ho'
        exact .inr (hpre e he hb)
      · exact .inr (hS k o' hk ho' e he hb)
    · show DI Mine G h0 w0 ops st cl tk (fun j => Lst (listed.setIfInBounds i true) j) a' w'
      rw [hset]; exact hdi'

theorem drawn_sound (htt : TTOK P tt) (hcs : CallS P call) (hcd : CallDet call) (hmix : P.follows .mixedOrders = true)
    (h : awpD tt call mds rid ops 0 ops.toList [] K s) (hr : Rel Mine G s a w) (hh : h0 ≤ s.hp.length) :
    (Code.region rid ops true).wp P (Lift Mine G h0 w (seqK K (fun _ _ => False))) a w := by
  obtain ⟨st, pr, x, ws, cl, tk, hs0, hcl, hst, hd, htl, hK⟩ := trace hcd ops.toList 0 [] s h
  obtain ⟨rows, hD⟩ := drawOK_spec (ops := ops) (cl := cl) (by simpa using hd)
  have hcl : cl.length ≤ ops.size := by simpa using hcl
  have htl : cl.length < ops.size → tailOK ops (0 + cl.length) = true := fun h => htl (by simpa using h)
  have hT : TailS ops cl.length := by
    rcases Nat.lt_or_ge cl.length ops.size with h | h
    · exact tailOK_spec (by have := htl h; rwa [Nat.zero_add] at this)
    · exact tailS_end ops h
  have hsteps : Steps tt call mds rid ops st pr x ws cl tk := by
    intro i o hi ho
    have := hst i o hi (by rw [Array.getElem?_toList]; exact ho)
    rwa [Nat.zero_add] at this
  rw [Nat.zero_add] at hK
  have hfalse : ∀ j, ¬ Lst (Array.replicate ops.size false) j := by
    intro j hj
    unfold Lst at hj
    simp [Array.getD_eq_getD_getElem?, Array.getElem?_replicate] at hj
    split at hj <;> simp at hj
  have hw : Stp Mine w { w with drawn := w.drawn + 1 } := ⟨rfl, rfl, rfl, Nat.le_refl _, fun _ _ => rfl⟩
  have h4iff : has4 (cl.reverse ++ []) = false ↔ ∀ j, j < cl.length → cl.getD j 0 ≠ 4 := by
    rw [List.append_nil, has4_false]
    constructor
    · intro h j hj e
      exact h 4 (List.mem_reverse.2 (by rw [← e]; simp [List.getD, hj])) rfl
    · intro h c hc e
      obtain ⟨j, hj, e'⟩ := List.mem_iff_getElem.1 (List.mem_reverse.1 hc)
      exact h j hj (by simp [List.getD, hj, e', e])
  have hKA : (∀ j, j < cl.length → cl.getD j 0 ≠ 4) → awpL tt call mds rid ops cl.length (ops.toList.drop cl.length) K (st cl.length) := fun h4 => by
    rcases hK with ⟨_, hK⟩ | hK
    · exact hK
    · exact hK _ (Nat.le_refl _)
  have hKB : (¬ ∀ j, j < cl.length → cl.getD j 0 ≠ 4) → ∀ m, (st cl.length).T.n ≤ m → awpL tt call mds rid ops cl.length (ops.toList.drop cl.length) K { (st cl.length) with T := ⟨m, (st cl.length).T.l⟩ } := fun h4 => by
    rcases hK with ⟨h, _⟩ | hK
    · exact absurd (h4iff.1 h) h4
    · exact hK
  have hbase : ∀ t, (st 0).T.n ≤ t → G.tok t = none := by rw [hs0]; exact hr.inv.tfin
  have htl0 : ∀ t ∈ (st 0).T.l, t < (st 0).T.n := by
    rw [hs0]
    intro t ht
    obtain ⟨_, _, _, e, _⟩ := hr.inv.toks t ht
    rcases Nat.lt_or_ge t s.T.n with h | h
    · exact h
    · rw [hr.inv.tfin t h] at e; cases e
  have hinv : Inv Mine G s.hp s.T { w with drawn := w.drawn + 1 } := Inv.world (w := w) rfl hr.inv
  refine wp_region_any hmix (drawn_any htt hcs hcl hsteps hD hT hKA hKB hbase htl0 ops.size _ a _ ?_ (by simp) (fun j h => (hfalse j h).elim) ?_ ?_)
  · rw [Array.toList_replicate]; exact nFalse_replicate _
  · intro k o hk; exact (hfalse k hk).elim
  · have hslots : ∀ t, ∃ m, Cut cl.length (Lst (Array.replicate ops.size false)) (fun j => dstAt ops j = some t) m ∧ Req (s.tm.getD t tu) ((st m).tm.getD t tu) :=
      fun t => ⟨0, ⟨Nat.zero_le _, fun j hj => (Nat.not_lt_zero _ hj).elim, fun j _ _ => hfalse j⟩, by rw [hs0]; exact .refl _⟩
    have hcut : Cut cl.length (Lst (Array.replicate ops.size false)) (fun j => cl.getD j 0 = 2) 0 := ⟨Nat.zero_le _, fun j hj => (Nat.not_lt_zero _ hj).elim, fun j _ _ => hfalse j⟩
    by_cases h4 : ∀ j, j < cl.length → cl.getD j 0 ≠ 4
    · refine ⟨s.tm, 0, G, s.T, ?_, hcut, by rw [hs0], hslots, .refl _, .refl _ _, by rw [hs0]; exact hh, hw, .inl ⟨h4, by rw [hs0]⟩⟩
      rw [hs0]
      exact ⟨hr.len, hr.tm, hr.defers, hinv⟩
    · -- a number ahead of all that will be given
      have hN : s.T.n ≤ (st cl.length).T.n := by
        have := steps_tn hcl hsteps (m := 0) cl.length (by omega)
        rw [Nat.zero_add, hs0] at this; exact this
      have hi0 := hinv.toks' hN (l := s.T.l) (fun _ h => h)
      obtain ⟨hi1, hf1, hl1⟩ := hi0.addTok (n := (st cl.length).T.n) (bo := none) (e := 0) (c := 0) rfl (fun b hb => by cases hb)
      have hi2 := hi1.toks' (m := (st cl.length).T.n + 1) (l := s.T.l) (Nat.le_refl _) (fun t h => List.mem_cons_of_mem _ h)
      refine ⟨s.tm, 0, _, ⟨(st cl.length).T.n + 1, s.T.l⟩, ⟨hr.len, fun t y hy => (hr.tm t y hy).mono hr.inv.lb hf1.f0 hl1, hr.defers, by rw [hs0]; exact hi2⟩, hcut, by rw [hs0], hslots, hf1, (fun i hi => hl1 i (Nat.lt_of_lt_of_le hi hh)), by rw [hs0]; exact hh, hw,
        .inr ⟨Nat.lt_succ_self _, fun t ⟨h1, _⟩ => ?_, ⟨_, by simp [Gh.setTok]; rfl⟩, fun j p q _ => ?_, h4⟩⟩
      · rcases h1 with h1 | ⟨j, _, _, h1, _⟩
        · rw [hs0] at h1; exact h1
        · exact (hfalse j h1).elim
      · have h1 := steps_tn_lt hcl hsteps p (Nat.le_refl _) q
        simp only [Gh.setTok]
        rw [if_neg (by omega)]
        refine hbase _ ?_
        have := steps_tn hcl hsteps (m := 0) j (by omega)
        rwa [Nat.zero_add] at this

end
end Go.Proofs.Ytaaedebknacheaa.AB

set_option linter.unusedVariables false
set_option linter.unusedSimpArgs false
namespace Go.Proofs.Ytaaedebknacheaa.AB
open Go

section
variable {P : Program} {tt : TT} {Mine : Mn} {G : Gh} {s : St} {a : Act} {w : World}

theorem VR.nb0 {x : V} {y : Value} (h : VR G x y) : VR G x.nb0 y := by
  cases x <;> first
    | exact h
    | (cases h; exact .bool _)

theorem VR.nb {x : V} {y : Value} (h : VR G x y) : VR G x.nb y := by
  cases x with
  | agg l =>
    cases h with
    | agg _ vs hl ho h => exact .agg _ vs (by simpa using hl) ho (VR.mapP V.nb0 (fun _ _ h => h.nb0) h)
  | _ => exact h.nb0

theorem TR.nb {x : TV} {y : Value} (h : TR G x y) : TR G x.nb y := by
  cases x with
  | v x =>
    cases h with
    | v _ _ h => exact .v _ _ h.nb
  | _ => exact h

theorem nb_cells (x : V) : x.nb.cells = x.cells.map V.nb0 := by
  cases x <;> rfl

theorem tnb_cells (x : TV) (j : Nat) (q : TV) (h : x.nb.cells[j]? = some q) : ∃ q0, x.cells[j]? = some q0 ∧ ∀ u, TR G q0 u → TR G q u := by
  cases x with
  | v x =>
    simp only [TV.nb, TV.cells, nb_cells, List.getElem?_map] at h ⊢
    cases hx : x.cells[j]? with
    | none => rw [hx] at h; cases h
    | some z =>
      rw [hx] at h; cases h
      exact ⟨_, rfl, fun u hu => by
        cases hu with
        | v _ _ hu => exact .v _ _ hu.nb0⟩
  | _ => exact ⟨q, h, fun _ h => h⟩

theorem tnb_length (x : TV) : x.nb.cells.length = x.cells.length := by
  cases x <;> simp [TV.nb, TV.cells, nb_cells]

theorem maskL_get : ∀ (m : List Bool) (l : List TV) (t : Nat) (x : TV), (maskL m l)[t]? = some x → x = .v .undef ∨ ∃ y, l[t]? = some y ∧ x = y.nb
  | [], l, t, x, h => by
    simp only [maskL, List.getElem?_map] at h
    cases hl : l[t]? with
    | none => rw [hl] at h; cases h
    | some y => rw [hl] at h; cases h; exact .inl rfl
  | true :: m, [], t, x, h => by simp [maskL] at h
  | false :: m, [], t, x, h => by simp [maskL] at h
  | true :: m, y :: l, 0, x, h => by simp [maskL] at h; exact .inr ⟨y, rfl, h.symm⟩
  | true :: m, y :: l, t + 1, x, h => by simp only [maskL, List.getElem?_cons_succ] at h ⊢; exact maskL_get m l t x h
  | false :: m, y :: l, 0, x, h => by simp [maskL] at h; exact .inl h.symm
  | false :: m, y :: l, t + 1, x, h => by simp only [maskL, List.getElem?_cons_succ] at h ⊢; exact maskL_get m l t x h

theorem maskL_length : ∀ (m : List Bool) (l : List TV), (maskL m l).length = l.length
  | [], l => by simp [maskL]
  | true :: m, [] => rfl
  | false :: m, [] => rfl
  | true :: m, y :: l => by simp [maskL, maskL_length m l]
  | false :: m, y :: l => by simp [maskL, maskL_length m l]

def Gh.cut (G : Gh) (n : Nat) : Gh := { G with loc := fun i g => if i < n then G.loc i g else none }

theorem Gh.cut_fz (G : Gh) (n : Nat) : Fz G (G.cut n) ∧ Fz (G.cut n) G := ⟨⟨fun _ _ _ x => x, fun _ _ x => x, fun _ _ x => x, fun _ _ _ _ _ x => x⟩, ⟨fun _ _ _ x => x, fun _ _ x => x, fun _ _ x => x, fun _ _ _ _ _ x => x⟩⟩

theorem cut_loc {n i g : Nat} {x} (hi : i < n) (h : G.loc i g = some x) : (G.cut n).loc i g = some x := by
  simp only [Gh.cut]; rw [if_pos hi]; exact h

theorem clo0_TR {n : Nat} {x : TV} {y : Value} (hc : x.clo0 n = true) (h : TR G x y) : TR (G.cut n) x y := by
  cases h with
  | v x y h => exact .v x y (h.mono (G.cut_fz n).1)
  | ptr i g e f b sz ct h => exact .ptr i g e f b sz ct (cut_loc (by simpa [TV.clo0] using hc) h)
  | arr i g off len b sz ct cap o h h1 h2 h3 => exact .arr i g off len b sz ct cap o (cut_loc (by simpa [TV.clo0] using hc) h) h1 h2 h3
  | arrNil i g sz ct h => exact .arrNil i g sz ct (cut_loc (by simpa [TV.clo0] using hc) h)
  | mapr i b sz ct h => exact .mapr i b sz ct (cut_loc (by simpa [TV.clo0] using hc) h)
  | iter i b sz ct h => exact .iter i b sz ct (cut_loc (by simpa [TV.clo0] using hc) h)
  | bsl i n b sz ct h => exact .bsl i n b sz ct (cut_loc (by simpa [TV.clo0] using hc) h)
  | clo f l vs hl h => cases hc
  | agg l vs hl ho h => cases hc
  | tup l vs hl h => cases hc

theorem clo1_TR {n : Nat} {x : TV} {y : Value} (hc : x.clo1 n = true) (h : TR G x y) : TR (G.cut n) x y := by
  have list : ∀ {l : List TV} {vs : List Value}, l.all (TV.clo0 n) = true → (∀ (i : Nat) x y, l[i]? = some x → vs[i]? = some y → TR G x y) →
      ∀ (i : Nat) x y, l[i]? = some x → vs[i]? = some y → TR (G.cut n) x y := by
    intro l vs ha hp i x y hx hy
    exact clo0_TR (List.all_eq_true.1 ha x (List.mem_of_getElem? hx)) (hp i x y hx hy)
  cases h with
  | clo f l vs hl h => exact .clo f l vs hl (list hc h)
  | agg l vs hl ho h => exact .agg l vs hl ho (list hc h)
  | tup l vs hl h => exact .tup l vs hl (list hc h)
  | v x y h => exact clo0_TR hc (.v x y h)
  | ptr i g e f b sz ct h => exact clo0_TR hc (.ptr i g e f b sz ct h)
  | arr i g off len b sz ct cap o h h1 h2 h3 => exact clo0_TR hc (.arr i g off len b sz ct cap o h h1 h2 h3)
  | arrNil i g sz ct h => exact clo0_TR hc (.arrNil i g sz ct h)
  | mapr i b sz ct h => exact clo0_TR hc (.mapr i b sz ct h)
  | iter i b sz ct h => exact clo0_TR hc (.iter i b sz ct h)
  | bsl i n b sz ct h => exact clo0_TR hc (.bsl i n b sz ct h)

theorem TV.clo1_cells {n : Nat} {x : TV} (h : x.clo1 n = true) : ∀ y ∈ x.cells, y.clo1 n = true := by
  intro y hy
  cases x with
  | v x =>
    simp only [TV.cells, List.mem_map] at hy
    obtain ⟨q, _, rfl⟩ := hy
    rfl
  | agg l =>
    simp only [TV.cells] at hy
    have := List.all_eq_true.1 h y hy
    cases y <;> first | exact this | cases this
  | _ => simp only [TV.cells, List.mem_singleton] at hy; subst hy; exact h

/-- forgetting at a loop's head -/
theorem Rel.mask {m : List Bool × Nat} {h0 : Nat} (hr : Rel Mine G s a w) (hc : (s.mask m).clo m.2 = true) (hm : h0 ≤ m.2) (hh : h0 ≤ s.hp.length) :
    ∃ G', Rel Mine G' (s.mask m) a w ∧ Fz G G' ∧ Lc h0 G G' ∧ h0 ≤ (s.mask m).hp.length := by
  simp only [St.clo, Bool.and_eq_true] at hc
  obtain ⟨hc1, hc2⟩ := hc
  have hget : ∀ (i : Nat) o, ((s.hp.take m.2).map O.nb)[i]? = some (some o) → i < m.2 ∧ ∃ o0, s.hp[i]? = some (some o0) ∧ O.nb (some o0) = some o ∧ o0.gen = o.gen := by
    intro i o hi
    rw [List.getElem?_map, List.getElem?_take] at hi
    split at hi
    · refine ⟨by assumption, ?_⟩
      cases ho : s.hp[i]? with
      | none => rw [ho] at hi; cases hi
      | some q =>
        rw [ho] at hi
        cases q with
        | none => cases hi
        | some o0 =>
          refine ⟨o0, rfl, by simpa using hi, ?_⟩
          cases o0 <;> cases hi <;> rfl
    · cases hi
  have hfz := G.cut_fz m.2
  have hloc : ∀ i g, i < m.2 → (G.cut m.2).loc i g = G.loc i g := by
    intro i g hi; simp only [Gh.cut]; rw [if_pos hi]
  refine ⟨G.cut m.2, ⟨by simp [St.mask, maskL_length, hr.len], fun t x hx => ?_, hr.defers, ?_⟩, hfz.1, fun i hi g x hx => cut_loc (by omega) hx, by simp [St.mask]; omega⟩
  · simp only [St.mask] at hx
    have hcl := List.all_eq_true.1 hc1 x (List.mem_of_getElem? hx)
    rcases maskL_get _ _ _ _ hx with rfl | ⟨y, h, rfl⟩
    · exact TR.undef _
    · exact clo1_TR hcl (hr.tm t y h).nb
  · have hi := hr.inv
    refine ⟨hi.cells, hi.mps, ?_, ?_, hi.toks, ?_, hi.tinj, ?_, ?_, hi.tfin, hi.mine, hi.old⟩
    · intro i o hio
      have hco := List.all_eq_true.1 hc2 _ (List.mem_of_getElem? hio)
      obtain ⟨hil, o0, hio', hnb, hgen⟩ := hget i o hio
      have hor := hi.objs i o0 hio'
      cases o0 with
      | box x =>
        cases hnb
        obtain ⟨b, sz, ct, h1, h2, h3, cur, el, h4, h5, h6⟩ := hor
        refine ⟨b, sz, ct, cut_loc hil h1, h2, ⟨h3.1, h3.2⟩, cur, el, h4, by rw [tnb_length]; exact h5, fun j y u hy hu => ?_⟩
        obtain ⟨y0, hy0, hyr⟩ := tnb_cells (G := G) x j y hy
        exact ⟨clo1_TR (TV.clo1_cells hco y (List.mem_of_getElem? hy)) (hyr u (h6 j y0 u hy0 hu).1), (h6 j y0 u hy0 hu).2⟩
      | arr g c l ts =>
        cases hnb
        obtain ⟨bo, ct, h1, hle, h2⟩ := hor
        refine ⟨bo, ct, cut_loc hil h1, hle, ?_⟩
        cases bo with
        | none => exact h2
        | some b =>
          obtain ⟨h2, h3, cur, el, h4, h5, h6⟩ := h2
          refine ⟨h2, ⟨h3.1, h3.2⟩, cur, el, h4, h5, fun e x hx j y hy => ?_⟩
          obtain ⟨u, q1, q2, q3⟩ := h6 e x hx j y hy
          exact ⟨u, q1, q2.mono hfz.1, q3⟩
      | map kc vc es =>
        cases hnb
        obtain ⟨b, sz, ct, h1, h2, h3, ents, ck, h4, h5, h6⟩ := hor
        exact ⟨b, sz, ct, cut_loc hil h1, h2, ⟨h3.1, h3.2⟩, ents, ck, h4, h5, fun j e m he hm => ⟨(h6 j e m he hm).1.mono hfz.1, (h6 j e m he hm).2.mono hfz.1⟩⟩
      | siter _ _ => exact hor.elim
    · intro i j o o' b sz ct sz' ct' hij h1 h2 l1 l2
      obtain ⟨hil, o1, h1, _, g1⟩ := hget i o h1
      obtain ⟨hjl, o2, h2, _, g2⟩ := hget j o' h2
      rw [hloc _ _ hil] at l1
      rw [hloc _ _ hjl] at l2
      exact hi.inj i j o1 o2 b sz ct sz' ct' hij h1 h2 (by rw [g1]; exact l1) (by rw [g2]; exact l2)
    · intro t ht i o b e c sz ct h1 h2 l1
      obtain ⟨hil, o1, h2, _, g1⟩ := hget i o h2
      rw [hloc _ _ hil] at l1
      exact hi.tobj t ht i o1 b e c sz ct h1 h2 (by rw [g1]; exact l1)
    · intro i g hig
      simp only [St.mask, List.length_map, List.length_take] at hig
      simp only [Gh.cut]
      split
      · rename_i hlt
        exact hi.lb i g (by omega)
      · rfl
    · intro i o g h1 hg
      obtain ⟨hil, o1, h1, _, g1⟩ := hget i o h1
      rw [hloc _ _ hil]
      exact hi.gens i o1 g h1 (by rw [g1]; exact hg)

theorem awp_sound (htt : TTOK P tt) {call : CallP} (hcs : CallS P call) (hcd : CallDet call) (hmix : P.follows .mixedOrders = true) {md : Mds} {h0 : Nat} {msk : Nat → List Bool × Nat} :
    ∀ (c : Code) (b : Nat) (Q : Exit → St → Prop) (s : St) (G : Gh) (a : Act) (w : World), awp tt call md h0 msk b c Q s → Rel Mine G s a w → h0 ≤ s.hp.length →
      c.wp P (Lift Mine G h0 w Q) a w := by
  intro c
  induction c with
  | skip => intro b Q s G a w h hr hh; exact wp_skip ⟨s, G, h, hr, .refl _, .refl _ _, hh, .refl _ _⟩
  | label l => intro b Q s G a w h hr hh; exact wp_label ⟨s, G, h, hr, .refl _, .refl _ _, hh, .refl _ _⟩
  | exit id => intro b Q s G a w h hr hh; exact wp_exit ⟨s, G, h, hr, .refl _, .refl _ _, hh, .refl _ _⟩
  | ret => intro b Q s G a w h hr hh; exact wp_ret ⟨s, G, h, hr, .refl _, .refl _ _, hh, .refl _ _⟩
  | region id ops d =>
    intro b Q s G a w h hr hh
    have conv : ∀ {e : Exit} {a' : Act} {w' : World}, Lift Mine G h0 w (seqK (Q .normal) (fun _ _ => False)) e a' w' → Lift Mine G h0 w Q e a' w' := by
      rintro e a' w' ⟨s', G', h1, h2⟩
      cases e <;> first | exact ⟨s', G', h1, h2⟩ | exact h1.elim
    cases d with
    | false =>
      refine wp_region_list (list_mono (fun e a w h => conv h) _ _ _ (awpL_sound htt hcs _ _ s G a w h hr hh))
    | true => exact Code.wp_mono (fun e a w h => conv h) (drawn_sound htt hcs hcd hmix h hr hh)
  | seq x y ihx ihy =>
    intro b Q s G a w h hr hh
    refine wp_seq (Code.wp_mono ?_ (ihx b _ s G a w h hr hh))
    rintro e a' w' ⟨s', G', h1, h2, h3, h4, h5, h6⟩
    cases e <;> first
      | exact Code.wp_mono (fun e a w h => Lift.of h3 h4 h6 h) (ihy b Q s' G' a' w' h1 h2 h5)
      | exact ⟨s', G', h1, h2, h3, h4, h5, h6⟩
  | cond c x y ihx ihy =>
    intro b Q s G a w h hr hh
    have hv := hr.ev (tt := tt) 0 c
    unfold awp at h
    split at h
    · rename_i hc
      rw [hc] at hv
      have : a.eval c = .bool true := by
        generalize a.eval c = u at hv
        cases hv with | v _ _ hv => cases hv; rfl
      exact wp_cond_true this (ihx b Q s G a w h hr hh)
    · rename_i hc
      rw [hc] at hv
      have : a.eval c = .bool false := by
        generalize a.eval c = u at hv
        cases hv with | v _ _ hv => cases hv; rfl
      exact wp_cond_false this (ihy b Q s G a w h hr hh)
    · rename_i t hc
      rw [hc] at hv
      have : a.eval c = .bool t := by
        generalize a.eval c = u at hv
        cases hv with | v _ _ hv => cases hv; rfl
      exact wp_cond_split this (fun ht => ihx b Q s G a w (h.1 ht) hr hh) (fun ht => ihy b Q s G a w (h.2 ht) hr hh)
    · exact h.elim
  | block id c ih =>
    intro b Q s G a w h hr hh
    refine wp_block (Code.wp_mono ?_ (ih id _ s G a w h hr hh))
    rintro e a' w' ⟨s', G', h1, h2, h3, h4, h5, h6⟩
    cases e with
    | exit id' =>
      simp only [Exit.inBlock]
      simp only [blockK] at h1
      split
      · rename_i e
        subst e
        rw [Nat.beq_refl] at h1
        exact ⟨s', G', h1, h2, h3, h4, h5, h6⟩
      · rename_i e
        have : Nat.beq id' id = false := by
          cases hb : Nat.beq id' id with
          | false => rfl
          | true => exact absurd (Nat.eq_of_beq_eq_true hb) e
        rw [this] at h1
        exact ⟨s', G', h1, h2, h3, h4, h5, h6⟩
    | _ => exact ⟨s', G', h1, h2, h3, h4, h5, h6⟩
  | loop c ih =>
    intro b Q s G a w h hr hh
    unfold awp at h
    split at h
    · -- so many rounds
      generalize (msk b).2 - 1000000 = N at h
      refine wp_loop_ghost (fun n a' w' => ∃ s' G', Unroll (awp tt call md h0 msk b c) Q n s' ∧ Rel Mine G' s' a' w' ∧ Fz G G' ∧ Lc h0 G G' ∧ h0 ≤ s'.hp.length ∧ Stp Mine w w') N
        ⟨_, G, h, hr, .refl _, .refl _ _, hh, .refl _ _⟩ ?_
      rintro n a1 w1 ⟨s1, G2, hI1, hr2, hf2, hl2, hh2, hs2⟩
      cases n with
      | zero => exact hI1.elim
      | succ n =>
        refine Code.wp_mono ?_ (ih b _ s1 G2 a1 w1 hI1 hr2 hh2)
        rintro e a' w' ⟨s', G', h1, h2, h3, h4, h5, h6⟩
        cases e with
        | normal => exact ⟨n, Nat.lt_succ_self n, s', G', h1, h2, hf2.trans h3, hl2.trans h4, h5, hs2.trans h6⟩
        | _ => exact ⟨s', G', h1, h2, hf2.trans h3, hl2.trans h4, h5, hs2.trans h6⟩
    split at h
    case h_2 => exact h.elim
    rename_i hc
    obtain ⟨I, ⟨n0, hI⟩, hround⟩ := h
    obtain ⟨G1, hr1, hf1, hl1, hh1⟩ := hr.mask hc (Nat.le_add_right _ _) hh
    refine wp_loop_ghost (fun n a' w' => ∃ s' G', I n s' ∧ Rel Mine G' s' a' w' ∧ Fz G G' ∧ Lc h0 G G' ∧ h0 ≤ s'.hp.length ∧ Stp Mine w w') n0
      ⟨_, G1, hI, hr1, hf1, hl1, hh1, .refl _ _⟩ ?_
    rintro n a1 w1 ⟨s1, G2, hI1, hr2, hf2, hl2, hh2, hs2⟩
    refine Code.wp_mono ?_ (ih b _ s1 G2 a1 w1 (hround n s1 hI1) hr2 hh2)
    rintro e a' w' ⟨s', G', h1, h2, h3, h4, h5, h6⟩
    cases e with
    | normal =>
      simp only [loopQ] at h1
      split at h1
      case h_2 => exact h1.elim
      rename_i hc'
      obtain ⟨n', hlt, hI'⟩ := h1
      obtain ⟨G3, hr3, hf3, hl3, hh3⟩ := h2.mask hc' (Nat.le_add_right _ _) h5
      exact ⟨n', hlt, _, G3, hI', hr3, hf2.trans (h3.trans hf3), hl2.trans (h4.trans hl3), hh3, hs2.trans h6⟩
    | _ => exact ⟨s', G', h1, h2, hf2.trans h3, hl2.trans h4, h5, hs2.trans h6⟩
  | _ => intro b Q s G a w h hr hh; exact h.elim

end
end Go.Proofs.Ytaaedebknacheaa.AB

set_option linter.unusedVariables false
set_option linter.unusedSimpArgs false
namespace Go.Proofs.Ytaaedebknacheaa.AB
open Go

mutual
/-- no numbered token in it -/
def V.nt : V → Bool
  | .list _ _ (.tk _) => false
  | .agg l => V.ntL l
  | .tup l => V.ntL l
  | .fptr x _ => x.nt
  | .iface _ x => x.nt
  | _ => true
def V.ntL : List V → Bool
  | [] => true
  | x :: l => x.nt && V.ntL l
end

theorem ntL_mem : ∀ {l : List V}, V.ntL l = true → ∀ x ∈ l, x.nt = true
  | [], _, x, hx => by cases hx
  | y :: l, h, x, hx => by
    unfold V.ntL at h
    rw [Bool.and_eq_true] at h
    rcases List.mem_cons.1 hx with rfl | hx
    · exact h.1
    · exact ntL_mem h.2 x hx

theorem ntL_of : ∀ {l : List V}, (∀ x ∈ l, x.nt = true) → V.ntL l = true
  | [], _ => rfl
  | y :: l, h => by
    unfold V.ntL
    rw [h y (List.mem_cons_self ..), ntL_of fun x hx => h x (List.mem_cons_of_mem _ hx)]; rfl

theorem Cd.cells_nt : ∀ (c : Cd) (x : c.T), ∀ y ∈ c.cells x, y.nt = true
  | .unit, _, y, h => by simp [Cd.cells] at h
  | .int k, n, y, h => by simp [Cd.cells] at h; subst h; rfl
  | .bool, b, y, h => by simp [Cd.cells] at h; subst h; rfl
  | .str, s, y, h => by simp [Cd.cells] at h; subst h; rfl
  | .slice c, l, y, h => by simp [Cd.cells] at h; subst h; rfl
  | .pair a b, p, y, h => by
    simp only [Cd.cells, List.mem_append] at h
    rcases h with h | h
    · exact Cd.cells_nt a p.1 y h
    · exact Cd.cells_nt b p.2 y h

theorem Cd.enc_nt (c : Cd) (x : c.T) : (c.enc x).nt = true := by
  cases c <;> first
    | rfl
    | exact ntL_of (Cd.cells_nt (.pair _ _) x)

theorem nt_cells {x : V} (h : x.nt = true) : ∀ y ∈ x.cells, y.nt = true := by
  intro y hy
  cases x with
  | agg l => exact ntL_mem (by unfold V.nt at h; exact h) y hy
  | _ => simp only [V.cells, List.mem_singleton] at hy; subst hy; exact h

/-- what is frozen, and no more -/
def Gh.bare (G : Gh) : Gh := ⟨G.cell, G.mp, fun _ => none, fun _ _ => none⟩

theorem VR.bare {G : Gh} {x : V} {y : Value} (h : VR G x y) : x.nt = true → VR G.bare x y := by
  induction h with
  | undef y => exact fun _ => .undef y
  | tt => exact fun _ => .tt
  | ff => exact fun _ => .ff
  | int k n => exact fun _ => .int k n
  | bool b => exact fun _ => .bool b
  | str l => exact fun _ => .str l
  | agg l vs hl ho h ih =>
    intro hn
    exact .agg l vs hl ho fun i x y hx hy => ih i x y hx hy (ntL_mem (by unfold V.nt at hn; exact hn) x (List.mem_of_getElem? hx))
  | tup l vs hl h ih =>
    intro hn
    exact .tup l vs hl fun i x y hx hy => ih i x y hx hy (ntL_mem (by unfold V.nt at hn; exact hn) x (List.mem_of_getElem? hx))
  | list c l t a cap b o vals ha hcap hc ho hv ht ih =>
    intro hn
    refine .list c l t a cap b o vals ha hcap hc ho (fun i x hx => ih i x hx ?_) ?_
    · obtain ⟨z, _, hz⟩ := List.mem_flatMap.1 (List.mem_of_getElem? hx)
      exact Cd.cells_nt c z x hz
    · cases t with
      | no => trivial
      | exact => exact ht
      | tk n => simp [V.nt] at hn
  | fptr x f b o vals hc ho hv ih =>
    intro hn
    exact .fptr x f b o vals hc ho fun i y hy => ih i y hy (nt_cells (by unfold V.nt at hn; exact hn) y (List.mem_of_getElem? hy))
  | fmap kc vc es r ents hm hl hk hv ihk ihv =>
    intro _
    exact .fmap kc vc es r ents hm hl (fun i e e' h1 h2 => ihk i e e' h1 h2 (Cd.enc_nt _ _)) (fun i e e' h1 h2 => ihv i e e' h1 h2 (Cd.enc_nt _ _))
  | fn f => exact fun _ => .fn f
  | iface t x y h ih => exact fun hn => .iface t x y (ih (by unfold V.nt at hn; exact hn))
  | nils => exact fun _ => .nils
  | nilp => exact fun _ => .nilp
  | nilm => exact fun _ => .nilm
  | nilf => exact fun _ => .nilf
  | nili => exact fun _ => .nili

/-- what is frozen stands in memory -/
structure FzOK (G : Gh) (w : World) : Prop where
  cells : ∀ b o v, G.cell b o = some v → w.cell? ⟨b, o, none⟩ = some v
  mps : ∀ r es, G.mp r = some es → ∃ (ents : Array MapEntry) (ck : Nat), w.heap[r]? = some (.map ents ck) ∧ ents.toList.map (fun m => (m.key, m.val)) = es

open Classical in
/-- all that is own is frozen -/
noncomputable def Gh.fzAll (G : Gh) (Mine : Mn) (w : World) : Gh :=
  { G with
    cell := fun b o => (G.cell b o).or (if Mine b then w.cell? ⟨b, o, none⟩ else none)
    mp := fun r => (G.mp r).or (if Mine r then (match w.heap[r]? with
      | some (.map ents _) => some (ents.toList.map fun m => (m.key, m.val))
      | _ => none) else none) }

/-- what is given out at the end -/
def frz0 (hp : Hp) (x : TV) (K : V → Prop) : Prop :=
  match x with
  | .v x => K x.norm
  | .arr i g off len => match hp.getD i none with
    | some (.arr g' c l _) => g = g' ∧ off + len ≤ l.length ∧ K (.list c ((l.drop off).take len) .no)
    | _ => False
  | .mapr i => match hp.getD i none with
    | some (.map kc vc es) => K (.fmap kc vc (es.map fun e => (e.1, e.2.1)))
    | _ => False
  | .ptr i g e f => match g, e, hp.getD i none with
    | 0, 0, some (.box (.v y)) => K (.fptr y.norm1 f)
    | _, _, _ => False
  | _ => False

def frzL (F : TV → (V → Prop) → Prop) : List TV → (List V → Prop) → Prop
  | [], K => K []
  | x :: l, K => F x fun v => frzL F l fun vs => K (v :: vs)

def frz1 (hp : Hp) (x : TV) (K : V → Prop) : Prop :=
  match x with
  | .agg l => frzL (frz0 hp) l fun vs => K (.agg (vs.map V.norm0))
  | x => frz0 hp x K

def frz (hp : Hp) (x : TV) (K : V → Prop) : Prop :=
  match x with
  | .tup l => frzL (frz1 hp) l fun vs => K (.tup vs)
  | x => frz1 hp x K

section
variable {P : Program} {tt : TT} {Mine : Mn} {G : Gh} {s : St} {a : Act} {w : World} {hp : Hp} {T : Toks}

theorem fzAll_fz : Fz G (G.fzAll Mine w) := by
  refine ⟨fun b o v h => ?_, fun r e h => ?_, fun _ _ h => h, fun _ _ _ _ _ h => h⟩
  · simp [Gh.fzAll, h]
  · simp [Gh.fzAll, h]

theorem fzAll_ok (hi : Inv Mine G hp T w) : FzOK (G.fzAll Mine w) w := by
  refine ⟨fun b o v h => ?_, fun r e h => ?_⟩
  · simp only [Gh.fzAll] at h
    cases hc : G.cell b o with
    | some v' => rw [hc] at h; cases h; exact hi.cells b o v hc
    | none =>
      rw [hc, Option.none_or] at h
      split at h
      · exact h
      · cases h
  · simp only [Gh.fzAll] at h
    cases hc : G.mp r with
    | some v' => rw [hc] at h; cases h; exact hi.mps r e hc
    | none =>
      rw [hc, Option.none_or] at h
      split at h
      · split at h
        · rename_i ents ck he
          cases h
          exact ⟨ents, ck, he, rfl⟩
        · cases h
      · cases h

theorem fzAll_old (hi : Inv Mine G hp T w) : (∀ b o v, (G.fzAll Mine w).cell b o = some v → Mine b ∨ Mine.cell b o = some v) ∧
    ∀ r e, (G.fzAll Mine w).mp r = some e → Mine r ∨ Mine.mp r = some e := by
  refine ⟨fun b o v h => ?_, fun r e h => ?_⟩
  · simp only [Gh.fzAll] at h
    cases hc : G.cell b o with
    | some v' => rw [hc] at h; cases h; exact hi.old.1 b o v hc
    | none =>
      rw [hc, Option.none_or] at h
      split at h
      · exact .inl (by assumption)
      · cases h
  · simp only [Gh.fzAll] at h
    cases hc : G.mp r with
    | some v' => rw [hc] at h; cases h; exact hi.old.2 r e hc
    | none =>
      rw [hc, Option.none_or] at h
      split at h
      · exact .inl (by assumption)
      · cases h

theorem fzAll_cell (hi : Inv Mine G hp T w) {b o : Nat} (hm : Mine b) {cur : Array Value} {el : TypeId} (hb : w.heap[b]? = some (.cells cur el (0, 0))) {u : Value} (hu : cur[o]? = some u) :
    (G.fzAll Mine w).cell b o = some u := by
  have hw : w.cell? ⟨b, o, none⟩ = some u := by unfold World.cell?; simp only [hb]; simpa using hu
  simp only [Gh.fzAll]
  cases hc : G.cell b o with
  | some v' =>
    have := hi.cells b o v' hc
    rw [hw] at this; cases this; rfl
  | none => rw [Option.none_or, if_pos hm]; exact hw

theorem frz0_sound {x : TV} {y : Value} {K : V → Prop} (h : frz0 hp x K) (hi : Inv Mine G hp T w) (hx : TR G x y) : ∃ r, K r ∧ VR (G.fzAll Mine w) r y := by
  unfold frz0 at h
  have objAt : ∀ {i : Nat} {o : O}, hp.getD i none = some o → hp[i]? = some (some o) := by
    intro i o ho
    simp only [List.getD] at ho
    cases hh : hp[i]? with
    | none => rw [hh] at ho; cases ho
    | some q => rw [hh] at ho; exact congrArg some ho
  split at h
  · cases hx with
    | v _ _ hx => exact ⟨_, h, (hx.mono fzAll_fz.f0).norm⟩
  · rename_i i g off len
    split at h
    case h_2 => exact h.elim
    rename_i g' c l ts ho
    obtain ⟨rfl, hlen, hk⟩ := h
    obtain ⟨bo, ct, hloc, hlct, hor⟩ := hi.objs i _ (objAt ho)
    refine ⟨_, hk, ?_⟩
    have hlen' : ((l.drop off).take len).length = len := by simp; omega
    cases hx with
    | arr _ _ _ _ b sz ct' cap o hl' h1 h2 h3 =>
      rw [hloc] at hl'; cases hl'
      obtain ⟨hm, hpriv, cur, el, hb, hsz, hcells⟩ := hor
      have hat := arr_cells hcells
      have hfl : ∀ (j : Nat) q, (((l.drop off).take len).flatMap c.cells)[j]? = some q → (l.flatMap c.cells)[off * c.sz + j]? = some q := by
        intro j q hq
        have := flat_take c (l.drop off) len j q hq
        rwa [flat_drop] at this
      have ho' : ∀ (j : Nat) q, (((l.drop off).take len).flatMap c.cells)[j]? = some q → o = off * c.sz := by
        intro j q hq
        refine h3 ?_
        have hj := (List.getElem?_eq_some_iff.1 hq).1
        rw [length_flat, hlen'] at hj
        rcases Nat.eq_zero_or_pos len with h0 | h0
        · rw [h0] at hj; omega
        · omega
      have hvr := VR.list (G := G.fzAll Mine w) c ((l.drop off).take len) .no (some ⟨b, o, none⟩) cap b o (fun j => cur.getD (o + j) Go.undef) (fun _ => rfl) (by rw [hlen']; exact h1)
        (fun j q hq => by
          obtain ⟨u, q1, q2, q3⟩ := hat _ q (hfl j q hq)
          have := ho' j q hq
          subst this
          rw [fzAll_cell hi hm hb q1]
          simp [Array.getD_eq_getD_getElem?, q1])
        (fun j q hq => by
          obtain ⟨u, q1, q2, q3⟩ := hat _ q (hfl j q hq)
          have := ho' j q hq
          subst this
          simpa [Array.getD_eq_getD_getElem?, q1] using q3)
        (fun j q hq => by
          obtain ⟨u, q1, q2, q3⟩ := hat _ q (hfl j q hq)
          have := ho' j q hq
          subst this
          simpa [Array.getD_eq_getD_getElem?, q1] using q2.mono fzAll_fz.f0) trivial
      rw [hlen'] at hvr
      exact hvr
    | arrNil _ _ sz ct' hl' =>
      have := VR.list (G := G.fzAll Mine w) c [] .no none 0 0 0 (fun _ => Go.undef) (fun h => absurd rfl h) (Nat.le_refl _) (fun i x hx => by simp at hx) (fun i x hx => by simp at hx) (fun i x hx => by simp at hx) trivial
      simpa using this
  · rename_i i
    split at h
    case h_2 => exact h.elim
    rename_i kc vc es ho
    obtain ⟨b, sz, ct, hloc, hm, hpriv, ents, ck, hb, hlen, hent⟩ := hi.objs i _ (objAt ho)
    refine ⟨_, h, ?_⟩
    cases hx with
    | mapr _ b' sz' ct' hl' =>
      rw [hloc] at hl'; cases hl'
      refine .fmap kc vc _ b (ents.toList.map fun m => (m.key, m.val)) ?_ (by simp [hlen]) (fun j e e' h1 h2 => ?_) (fun j e e' h1 h2 => ?_)
      · simp only [Gh.fzAll]
        rw [hpriv.2, Option.none_or, if_pos hm, hb]
      · simp only [List.getElem?_map] at h1 h2
        cases he : es[j]? with
        | none => rw [he] at h1; cases h1
        | some q =>
          cases hm : ents.toList[j]? with
          | none => rw [hm] at h2; cases h2
          | some m =>
            rw [he] at h1; rw [hm] at h2; cases h1; cases h2
            exact ((hent j q m he (by rw [← Array.getElem?_toList]; exact hm)).1).mono fzAll_fz.f0
      · simp only [List.getElem?_map] at h1 h2
        cases he : es[j]? with
        | none => rw [he] at h1; cases h1
        | some q =>
          cases hm : ents.toList[j]? with
          | none => rw [hm] at h2; cases h2
          | some m =>
            rw [he] at h1; rw [hm] at h2; cases h1; cases h2
            have := ((hent j q m he (by rw [← Array.getElem?_toList]; exact hm)).2).mono (G' := G.fzAll Mine w) fzAll_fz.f0
            show VR _ (vc.enc q.2.1) m.val
            generalize q.2.2 = tk at this
            revert this
            generalize q.2.1 = z
            cases vc <;> intro this <;> first
              | exact this
              | exact this.norm0
  · rename_i i g e f
    split at h
    case h_2 => exact h.elim
    rename_i y' ho
    obtain ⟨b, sz, ct, hloc, hm, hpriv, cur, el, hb, hlen, hcells⟩ := hi.objs i _ (objAt ho)
    refine ⟨_, h, ?_⟩
    cases hx with
    | ptr _ _ _ _ b' sz' ct' hl' =>
      rw [hloc] at hl'; cases hl'
      have hcl : ∀ (j : Nat) q, y'.norm1.cells[j]? = some q → ∃ u, cur[j]? = some u ∧ VR G q u ∧ u.oneCell' = true := by
        intro j q hq
        have hlen2 : y'.norm1.cells.length = y'.cells.length := by cases y' <;> simp [V.norm1, V.norm0, V.cells]
        have hj : j < cur.size := by
          have := (List.getElem?_eq_some_iff.1 hq).1
          rw [← hlen]; simp only [TV.cells, List.length_map]; omega
        have hcur : cur[j]? = some cur[j] := Array.getElem?_eq_getElem hj
        have hj2 : j < y'.cells.length := by rw [← hlen2]; exact (List.getElem?_eq_some_iff.1 hq).1
        have := hcells j (.v y'.cells[j]) cur[j] (by simp only [TV.cells, List.getElem?_map, List.getElem?_eq_getElem hj2, Option.map_some]) hcur
        refine ⟨_, hcur, ?_, this.2⟩
        cases this.1 with
        | v _ _ hv =>
          have hq2 : q = (y'.cells[j]).norm0 := by
            cases y' with
            | agg l =>
              simp only [V.norm1, V.cells, List.getElem?_map] at hq
              have : l[j]? = some l[j] := List.getElem?_eq_getElem hj2
              rw [this] at hq; cases hq; rfl
            | _ =>
              have hj0 : j = 0 := by simp [V.cells] at hj2; exact hj2
              subst hj0
              simp [V.norm1, V.norm0, V.cells] at hq
              subst hq; rfl
          rw [hq2]; exact hv.norm0
      have := VR.fptr (G := G.fzAll Mine w) y'.norm1 f b 0 (fun j => cur.getD j Go.undef)
        (fun j q hq => by
          obtain ⟨u, q1, q2, q3⟩ := hcl j q hq
          rw [Nat.zero_add, fzAll_cell hi hm hb q1]
          simp [Array.getD_eq_getD_getElem?, q1])
        (fun j q hq => by
          obtain ⟨u, q1, q2, q3⟩ := hcl j q hq
          simpa [Array.getD_eq_getD_getElem?, q1] using q3)
        (fun j q hq => by
          obtain ⟨u, q1, q2, q3⟩ := hcl j q hq
          simpa [Array.getD_eq_getD_getElem?, q1] using q2.mono fzAll_fz.f0)
      simpa using this
  · exact h.elim

theorem frzL_sound {F : TV → (V → Prop) → Prop} {G' : Gh} (hF : ∀ x y K, F x K → TR G x y → ∃ r, K r ∧ VR G' r y) : ∀ (l : List TV) (vs : List Value) (K : List V → Prop), frzL F l K → l.length = vs.length →
    (∀ (i : Nat) x y, l[i]? = some x → vs[i]? = some y → TR G x y) → ∃ rs, K rs ∧ rs.length = vs.length ∧ ∀ (i : Nat) x y, rs[i]? = some x → vs[i]? = some y → VR G' x y
  | [], [], K, h, _, _ => ⟨[], h, rfl, fun i x y hx => by simp at hx⟩
  | [], _ :: _, K, h, hl, _ => by simp at hl
  | _ :: _, [], K, h, hl, _ => by simp at hl
  | x :: l, v :: vs, K, h, hl, hr => by
    obtain ⟨r, h, hrr⟩ := hF x v _ h (hr 0 x v rfl rfl)
    obtain ⟨rs, h1, h2, h3⟩ := frzL_sound hF l vs _ h (by simpa using hl) (fun i x y hx hy => hr (i + 1) x y (by simpa using hx) (by simpa using hy))
    refine ⟨r :: rs, h1, by simp [h2], fun i x y hx hy => ?_⟩
    cases i with
    | zero => simp at hx hy; subst hx hy; exact hrr
    | succ i => exact h3 i x y (by simpa using hx) (by simpa using hy)

theorem frz1_sound {x : TV} {y : Value} {K : V → Prop} (h : frz1 hp x K) (hi : Inv Mine G hp T w) (hx : TR G x y) : ∃ r, K r ∧ VR (G.fzAll Mine w) r y := by
  unfold frz1 at h
  split at h
  · rename_i l
    cases hx with
    | agg _ vs hl ho hx =>
      obtain ⟨rs, h1, h2, h3⟩ := frzL_sound (fun x y K h hx => frz0_sound h hi hx) l vs _ h hl hx
      exact ⟨_, h1, .agg _ vs (by simpa using h2) ho (VR.mapP V.norm0 (fun _ _ h => h.norm0) h3)⟩
  · exact frz0_sound h hi hx

theorem frz_sound {x : TV} {y : Value} {K : V → Prop} (h : frz hp x K) (hi : Inv Mine G hp T w) (hx : TR G x y) : ∃ r, K r ∧ VR (G.fzAll Mine w) r y := by
  unfold frz at h
  split at h
  · rename_i l
    cases hx with
    | tup _ vs hl hx =>
      obtain ⟨rs, h1, h2, h3⟩ := frzL_sound (fun x y K h hx => frz1_sound h hi hx) l vs _ h hl hx
      exact ⟨_, h1, .tup _ vs h2 h3⟩
  · exact frz1_sound h hi hx

end
end Go.Proofs.Ytaaedebknacheaa.AB

set_option linter.unusedVariables false
set_option linter.unusedSimpArgs false
namespace Go.Proofs.Ytaaedebknacheaa.AB
open Go

def mnOf (G : Gh) (w : World) : Mn := ⟨fun b => w.heap.size ≤ b, G.cell, G.mp⟩

/-- what a pure call comes to -/
def PCPost (G : Gh) (w : World) (r : V) (e : Ending) (w' : World) : Prop :=
  ∃ v G', e = .returned v ∧ VR G'.bare r v ∧ FzOK G' w' ∧ Fz G.bare G'.bare ∧
    ((∀ b o v, G'.cell b o = some v → w.heap.size ≤ b ∨ G.cell b o = some v) ∧ ∀ r e, G'.mp r = some e → w.heap.size ≤ r ∨ G.mp r = some e) ∧ Stp (mnOf G w) w w'

/-- the function turns these heap-free arguments into this heap-free result, and turns nothing that stood before -/
def PC (P : Program) (f : FuncId) (args : List V) (r : V) : Prop :=
  ∀ (G : Gh) (w : World) (vs : Array Value), FzOK G w → args.length = vs.size → (∀ (i : Nat) x y, args[i]? = some x → vs[i]? = some y → VR G.bare x y) →
    Entered P f ∧ Calls P f vs w (PCPost G w r)

/-- a variable that holds a result -/
def resCell (tt : TT) (a t : Nat) (s : St) : Option TV :=
  match (tt.at t).ok, s.tm.getD a tu with
  | true, .ptr i g e f => match g, e, f, s.hp.getD i none with
    | 0, 0, 0, some (.box x) => subTV (tt.at t).k.isAgg (tt.at t).size 0 x
    | _, _, _, _ => none
  | _, _ => none

def resTV (tt : TT) : List ResultVar → St → Option (List TV)
  | [], _ => some []
  | .tmp t :: r, s => match resTV tt r s with
    | some l => some (s.tm.getD t tu :: l)
    | none => none
  | .cell a t :: r, s => match resCell tt a t s, resTV tt r s with
    | some x, some l => some (x :: l)
    | _, _ => none

def res1 : List TV → TV
  | [x] => x
  | l => .tup l

def retK (tt : TT) (rs : List ResultVar) (K : TV → St → Prop) : Exit → St → Prop
  | .normal, s => match resTV tt rs s with
    | some l => K (res1 l) s
    | none => False
  | .ret, s => match resTV tt rs s with
    | some l => K (res1 l) s
    | none => False
  | _, _ => False

def fnK (tt : TT) (call : CallP) (md : Mds) (msk : Nat → List Bool × Nat) (fn : Func) (args : List TV) (s : St) (K : TV → St → Prop) : Prop :=
  match fn.body with
  | some c => awp tt call md s.hp.length msk 0 c (retK tt fn.results.toList fun x s' => K x ⟨s.tm, s'.hp, s'.T⟩)
      ⟨args ++ List.replicate (fn.ntmps - args.length) tu, s.hp, s.T⟩
  | none => False

/-- the code of a result: data, or a map -/
inductive Rc where
  | cd (c : Cd)
  | mp (kc vc : Cd)

@[reducible] def Rc.T : Rc → Type
  | .cd c => c.T
  | .mp kc vc => List (kc.T × vc.T)

def Rc.V (r : Rc) (x : r.T) : V :=
  match r, x with
  | .cd c, x => c.enc x
  | .mp kc vc, es => .fmap kc vc es

def resT : List Rc → Type
  | [] => Unit
  | [c] => c.T
  | c :: d :: r => c.T × resT (d :: r)

def resVs : (l : List Rc) → resT l → List V
  | [], _ => []
  | [c], x => [c.V x]
  | c :: d :: r, p => c.V p.1 :: resVs (d :: r) p.2

def resV : (l : List Rc) → resT l → V
  | [], _ => .tup []
  | [c], x => c.V x
  | c :: d :: r, p => .tup (c.V p.1 :: resVs (d :: r) p.2)

def Cd.flat : Cd → Bool
  | .slice _ => false
  | .pair a b => a.flat && b.flat
  | _ => true

def Rc.flat : Rc → Bool
  | .cd c => c.flat
  | .mp _ _ => false

/-- result codes, ways, kept slots, and functions to be entered, by number -/
structure Cx where
  tt : TT
  sig : List (Nat × List Rc)
  mds : List (Nat × Mds)
  msk : List (Nat × List (Nat × List Bool × Nat))
  fns : List (Nat × Func)

def assoc {α : Type} (n : Nat) : List (Nat × α) → Option α
  | [] => none
  | (k, x) :: l => match Nat.beq k n with
    | true => some x
    | false => assoc n l

def Cx.md (E : Cx) (f : Nat) : Mds := (assoc f E.mds).getD []
def Cx.mk1 (E : Cx) (f : Nat) (b : Nat) : List Bool × Nat := match assoc f E.msk with
  | some l => (assoc b l).getD ([], 0)
  | none => ([], 0)

def pureC (P : Program) (E : Cx) (f : FuncId) (args : List TV) (s : St) (K : TV → St → Prop) : Prop :=
  match assoc f E.sig, TV.allV args with
  | some cs, some avs => match V.ntL (avs.map V.norm1) with
    | true => ∃ p : resT cs, PC P f (avs.map V.norm1) (resV cs p) ∧ K (.v (resV cs p)) s
    | false => False
  | _, _ => False

def lendC (P : Program) (E : Cx) (f : FuncId) (args : List TV) (s : St) (K : TV → St → Prop) : Prop :=
  match assoc f E.sig with
  | some cs => match cs.all Rc.flat with
    | true => frzL (frz1 s.hp) args fun avs => match V.ntL (avs.map V.norm1) with
      | true => ∃ p : resT cs, PC P f (avs.map V.norm1) (resV cs p) ∧ K (.v (resV cs p)) s
      | false => False
    | false => False
  | none => False

def callN (P : Program) (E : Cx) : Nat → CallP
  | _, .dflt, f, args, s, K => pureC P E f args s K
  | _, .lend, f, args, s, K => lendC P E f args s K
  | n + 1, .inl, f, args, s, K => match assoc f E.fns with
    | some fn => fnK E.tt (callN P E n) (E.md f) (E.mk1 f) fn args s K
    | none => False
  | _, _, _, _, _, _ => False

section
variable {P : Program} {tt : TT} {Mine : Mn} {G : Gh} {s : St} {a : Act} {w : World} {call : CallP}

theorem FzOK.inv (h : FzOK G w) : Inv (mnOf G w) G.bare [] ⟨0, []⟩ w :=
  ⟨h.cells, h.mps, fun i o hi => by simp at hi, fun i j o o' b sz ct sz' ct' _ hi => by simp at hi, fun t ht => by simp at ht, fun t ht => by simp at ht, fun t ht => by simp at ht,
    fun i g _ => rfl, fun i o g hi => by simp at hi, fun n _ => rfl, fun b hb => hb, fun b o v hc => .inr hc, fun r e hm => .inr hm⟩

theorem resCell_sound (htt : TTOK P tt) {b t : Nat} {x : TV} (h : resCell tt b t s = some x) (hi : Inv Mine G s.hp s.T w) (hr : ∀ t, TR G (s.tm.getD t tu) (a.tmps.getD t Go.undef)) :
    ∃ v, ((do loadVar t (← asAddr (a.tmps.getD b Go.undef)) : Sem Value)).run P w = .ok v w ∧ TR G x v := by
  unfold resCell at h
  split at h
  case h_2 => cases h
  rename_i i g e f hok hp
  split at h
  case h_2 => cases h
  rename_i y ho
  have hp' := hr b
  rw [hp] at hp'
  have ho' : s.hp[i]? = some (some (.box y)) := by
    simp only [List.getD] at ho
    cases hh : s.hp[i]? with
    | none => rw [hh] at ho; cases ho
    | some q => rw [hh] at ho; simp only [Option.getD_some] at ho; rw [ho]
  obtain ⟨b', sz', ct', h1, h2, h3, cur, el, h4, h5, h6⟩ := hi.objs i _ ho'
  generalize hq : a.tmps.getD b Go.undef = q at hp'
  cases hp' with
  | ptr _ _ _ _ b2 sz ct hloc =>
    rw [hloc] at h1; cases h1
    obtain ⟨v, k1, k2⟩ := sub_TV (w := w) (G := G) (b := b') (o := 0) htt hok (fun j => cur.getD j Go.undef) h (fun j z hz => by
      have hj : j < cur.size := by rw [← h5]; exact (List.getElem?_eq_some_iff.1 hz).1
      have hu : cur[j]? = some (cur.getD j Go.undef) := by simp [Array.getD, hj]
      obtain ⟨q1, q2⟩ := h6 j z _ hz hu
      exact ⟨by rw [cell_of_block h4, Nat.zero_add]; exact hu, q2, q1⟩)
    refine ⟨v, ?_, k2⟩
    rw [Nat.zero_mul]
    simpa only [Instr.loadAt, Instr.sureAddr, asAddr, Sem.run_bind, Sem.run_pure, Result.andThen_ok] using k1

theorem resTV_sound (htt : TTOK P tt) (hi : Inv Mine G s.hp s.T w) : ∀ (rs : List ResultVar) (l : List TV), resTV tt rs s = some l → (∀ t, TR G (s.tm.getD t tu) (a.tmps.getD t Go.undef)) →
    ∃ vs : List Value, (rs.mapM fun
      | .tmp t => pure (a.tmps.getD t Go.undef)
      | .cell b t => do loadVar t (← asAddr (a.tmps.getD b Go.undef)) : Sem (List Value)).run P w = .ok vs w ∧ l.length = vs.length ∧
      ∀ (i : Nat) x y, l[i]? = some x → vs[i]? = some y → TR G x y
  | [], l, h, _ => by
    cases h
    exact ⟨[], by simp [Sem.run_pure], rfl, fun i x y hx => by simp at hx⟩
  | .tmp t :: r, l, h, hr => by
    unfold resTV at h
    split at h
    · rename_i l' hl'
      cases h
      obtain ⟨vs, h1, h2, h3⟩ := resTV_sound htt hi r l' hl' hr
      refine ⟨a.tmps.getD t Go.undef :: vs, ?_, by simp [h2], fun i x y hx hy => ?_⟩
      · rw [List.mapM_cons, Sem.run_bind, Sem.run_pure, Result.andThen_ok, Sem.run_bind, h1, Result.andThen_ok, Sem.run_pure]
      · cases i with
        | zero =>
          have e1 : s.tm.getD t tu = x := by simpa using hx
          have e2 : a.tmps.getD t Go.undef = y := by simpa using hy
          rw [← e1, ← e2]; exact hr t
        | succ i => exact h3 i x y (by simpa using hx) (by simpa using hy)
    · cases h
  | .cell b t :: r, l, h, hr => by
    unfold resTV at h
    split at h
    · rename_i x' l' hx' hl'
      cases h
      obtain ⟨v, k1, k2⟩ := resCell_sound htt hx' hi hr
      obtain ⟨vs, h1, h2, h3⟩ := resTV_sound htt hi r l' hl' hr
      refine ⟨v :: vs, ?_, by simp [h2], fun i x y hx hy => ?_⟩
      · rw [List.mapM_cons, Sem.run_bind]
        refine (congrArg (fun r => Result.andThen r _) k1).trans ?_
        rw [Result.andThen_ok, Sem.run_bind, h1, Result.andThen_ok, Sem.run_pure]
      · cases i with
        | zero =>
          have e1 : x' = x := by simpa using hx
          have e2 : v = y := by simpa using hy
          rw [← e1, ← e2]; exact k2
        | succ i => exact h3 i x y (by simpa using hx) (by simpa using hy)
    · cases h

theorem results_sound (htt : TTOK P tt) (hi : Inv Mine G s.hp s.T w) {fn : Func} {l : List TV} (h : resTV tt fn.results.toList s = some l) (hr : ∀ t, TR G (s.tm.getD t tu) (a.tmps.getD t Go.undef)) :
    ∃ v, (results fn a.tmps).run P w = .ok v w ∧ TR G (res1 l) v := by
  obtain ⟨vs, h1, h2, h3⟩ := resTV_sound (P := P) (w := w) htt hi fn.results.toList l h hr
  have hm : (fn.results.mapM fun
      | .tmp t => pure (a.tmps.getD t Go.undef)
      | .cell b t => do loadVar t (← asAddr (a.tmps.getD b Go.undef)) : Sem (Array Value)).run P w = .ok vs.toArray w := by
    rw [Array.mapM_eq_mapM_toList, Sem.run_map, h1]; rfl
  unfold results
  rw [Sem.run_bind]
  refine ⟨_, (congrArg (fun r => Result.andThen r _) hm).trans (by rw [Result.andThen_ok, Sem.run_pure]), ?_⟩
  match l, vs, h2, h3 with
  | [x], [v], _, h3 => exact h3 0 x v rfl rfl
  | [], [], _, h3 => exact .tup _ [] rfl h3
  | x :: y :: l, v :: u :: vs, h2, h3 =>
    have hne : ¬ (v :: u :: vs).toArray.size = 1 := by simp
    rw [dif_neg hne]
    exact .tup _ _ h2 h3
  | [], _ :: _, h2, _ => simp at h2
  | _ :: _, [], h2, _ => simp at h2
  | [_], _ :: _ :: _, h2, _ => simp at h2
  | _ :: _ :: _, [_], h2, _ => simp at h2

theorem fnK_sound (htt : TTOK P tt) (hcs : CallS P call) (hcd : CallDet call) (hmix : P.follows .mixedOrders = true) {f : FuncId} {fn : Func} (hf : P.funcs[f]? = some fn)
    {md : Mds} {msk : Nat → List Bool × Nat} {args : List TV} {K : TV → St → Prop} (h : fnK tt call md msk fn args s K) {vs : Array Value} (hi : Inv Mine G s.hp s.T w)
    (hl : args.length = vs.size) (hr : ∀ (i : Nat) x y, args[i]? = some x → vs[i]? = some y → TR G x y) : Calls P f vs w (CallPost Mine G s w K) := by
  unfold fnK at h
  split at h
  case h_2 => exact h.elim
  rename_i c hb
  have hrel0 : Rel Mine G ⟨args ++ List.replicate (fn.ntmps - args.length) tu, s.hp, s.T⟩ { tmps := vs ++ Array.replicate (fn.ntmps - vs.size) Go.undef, defers := [] } w := by
    refine ⟨by simp [hl], fun t x hx => ?_, rfl, hi⟩
    rcases Nat.lt_or_ge t args.length with ht | ht
    · rw [List.getElem?_append_left ht] at hx
      have hv : vs[t]? = some vs[t] := Array.getElem?_eq_getElem (by omega)
      have : (vs ++ Array.replicate (fn.ntmps - vs.size) Go.undef).getD t Go.undef = vs[t] := by
        rw [Array.getD_eq_getD_getElem?, Array.getElem?_append_left (by omega), hv]; rfl
      rw [this]
      exact hr t x _ hx hv
    · rw [List.getElem?_append_right ht, List.getElem?_replicate] at hx
      split at hx
      · cases hx; exact TR.undef _
      · cases hx
  refine calls_of_wp hf hb (Code.wp_mono ?_ (awp_sound htt hcs hcd hmix c 0 _ _ G _ w h hrel0 (Nat.le_refl _)))
  · rintro e a' w' ⟨s', G', hq, hrel, hfz, hlc, hh, hst⟩
    have fin : ∀ l, resTV tt fn.results.toList s' = some l → K (res1 l) ⟨s.tm, s'.hp, s'.T⟩ → a'.defers = [] ∧ ∃ v, (results fn a'.tmps).run P w' = .ok v w' ∧ CallPost Mine G s w K (.returned v) w' := by
      intro l hl hk
      obtain ⟨v, h1, h2⟩ := results_sound (P := P) (w := w') (G := G') (a := a') htt hrel.inv hl (fun t => by
        simp only [List.getD]
        cases ht : s'.tm[t]? with
        | none => exact TR.undef _
        | some y => exact hrel.tm t y ht)
      exact ⟨hrel.defers, v, h1, v, _, _, G', rfl, hk, h2, rfl, hrel.inv, hfz, hlc, hh, hst⟩
    cases e <;> first
      | (simp only [retK] at hq
         split at hq
         · rename_i l hl
           exact fin l hl hq
         · exact hq.elim)
      | exact hq.elim

/-- a pure call, seen by its caller -/
theorem PCPost.caller {Mine : Mn} {G : Gh} {hp : Hp} {T : Toks} {G' : Gh} {w w' : World} (hi : Inv Mine G hp T w) (hok : FzOK G' w') (hf : Fz G.bare G'.bare)
    (hnew : (∀ b o v, G'.cell b o = some v → w.heap.size ≤ b ∨ G.cell b o = some v) ∧ ∀ r e, G'.mp r = some e → w.heap.size ≤ r ∨ G.mp r = some e) {M : Mn} (hM : ∀ b, M b ↔ w.heap.size ≤ b)
    (hs : Stp M w w') : ∃ G2, Inv Mine G2 hp T w' ∧ Fz G G2 ∧ Lc hp.length G G2 ∧ Stp Mine w w' ∧ ∀ r v, VR G'.bare r v → VR G2 r v := by
  have hblk : ∀ b, b < w.heap.size → w'.heap[b]? = w.heap[b]? := fun b hb => hs.block b fun hm => by have := (hM b).1 hm; omega
  have hpriv : ∀ b, b < w.heap.size → G.priv b → Gh.priv { G with cell := G'.cell, mp := G'.mp } b := by
    intro b hb hp
    refine ⟨fun o => ?_, ?_⟩
    · cases hc : G'.cell b o with
      | none => rfl
      | some v =>
        rcases hnew.1 b o v hc with h | h
        · omega
        · rw [hp.1 o] at h; cases h
    · cases hc : G'.mp b with
      | none => rfl
      | some e =>
        rcases hnew.2 b e hc with h | h
        · omega
        · rw [hp.2] at h; cases h
  have hfz : Fz G { G with cell := G'.cell, mp := G'.mp } := ⟨fun b o v h => hf.cell b o v h, fun r e h => hf.mp r e h, fun _ _ h => h, fun _ _ _ _ _ h => h⟩
  have hfz2 : Fz G'.bare { G with cell := G'.cell, mp := G'.mp } := ⟨fun _ _ _ h => h, fun _ _ h => h, fun n x h => (nomatch h), fun t t' x _ h => (nomatch h)⟩
  refine ⟨{ G with cell := G'.cell, mp := G'.mp }, ⟨hok.cells, hok.mps, fun i o ho => ?_, hi.inj, fun t ht => ?_, hi.tobj, hi.tinj, hi.lb, hi.gens, hi.tfin, fun b hb => hi.mine b (Nat.le_trans hs.size hb), ?_, ?_⟩,
    hfz, fun i _ g x h => h, ⟨hs.os, hs.tape, hs.output, hs.size, fun k hk => hblk k ?_⟩, fun r v h => h.mono hfz2⟩
  · exact (hi.objs i o ho).keep hi.lb hfz (fun i _ g x h => h) fun b sz ct hb =>
      have hlt := ((hi.objs i o ho).blk hb).2.2
      ⟨hblk b hlt, hpriv b hlt⟩
  · obtain ⟨bo, e, c, h1, h2⟩ := hi.toks t ht
    refine ⟨bo, e, c, h1, fun b hb => ?_⟩
    obtain ⟨k1, ⟨cur, el, k2, k3⟩, k4, k5⟩ := h2 b hb
    have hlt := heap_lt k2
    refine ⟨k1, ⟨cur, el, by rw [hblk b hlt]; exact k2, k3⟩, fun o ho => ?_, ?_⟩
    · cases hc : G'.cell b o with
      | none => rfl
      | some v =>
        rcases hnew.1 b o v hc with h | h
        · omega
        · rw [k4 o ho] at h; cases h
    · cases hc : G'.mp b with
      | none => rfl
      | some e =>
        rcases hnew.2 b e hc with h | h
        · omega
        · rw [k5] at h; cases h
  · intro b o v hc
    rcases hnew.1 b o v hc with h | h
    · exact .inl (hi.mine b h)
    · exact hi.old.1 b o v h
  · intro r e hc
    rcases hnew.2 r e hc with h | h
    · exact .inl (hi.mine r h)
    · exact hi.old.2 r e h
  · rcases Nat.lt_or_ge k w.heap.size with h | h
    · exact h
    · exact absurd (hi.mine k h) hk

theorem allV_get : ∀ {l : List TV} {vs : List V}, TV.allV l = some vs → l = vs.map .v
  | [], vs, h => by cases h; rfl
  | .v x :: l, vs, h => by
    unfold TV.allV at h
    split at h
    · rename_i l' hl
      cases h
      rw [allV_get hl]; rfl
    · cases h
  | .ptr _ _ _ _ :: _, _, h => by cases h
  | .arr _ _ _ _ :: _, _, h => by cases h
  | .mapr _ :: _, _, h => by cases h
  | .clo _ _ :: _, _, h => by cases h
  | .iter _ :: _, _, h => by cases h
  | .agg _ :: _, _, h => by cases h
  | .tup _ :: _, _, h => by cases h

theorem norm_args {G : Gh} {avs : List V} {vs : Array Value} (hn : V.ntL (avs.map V.norm1) = true) (hr : ∀ (i : Nat) x y, avs[i]? = some x → vs[i]? = some y → VR G x y) :
    ∀ (i : Nat) x y, (avs.map V.norm1)[i]? = some x → vs[i]? = some y → VR G.bare x y := by
  intro i x y hx hy
  have hnt := ntL_mem hn x (List.mem_of_getElem? hx)
  rw [List.getElem?_map] at hx
  cases ha : avs[i]? with
  | none => rw [ha] at hx; cases hx
  | some q => rw [ha] at hx; cases hx; exact (hr i q y ha hy).norm1.bare hnt

theorem pureC_sound {E : Cx} {f : FuncId} {args : List TV} {K : TV → St → Prop} (h : pureC P E f args s K) {vs : Array Value} (hi : Inv Mine G s.hp s.T w)
    (hl : args.length = vs.size) (hr : ∀ (i : Nat) x y, args[i]? = some x → vs[i]? = some y → TR G x y) : Entered P f ∧ Calls P f vs w (CallPost Mine G s w K) := by
  unfold pureC at h
  split at h
  case h_2 => exact h.elim
  rename_i cs avs hsig hav
  split at h
  case h_2 => exact h.elim
  rename_i hnt
  obtain ⟨p, hpc, hk⟩ := h
  have hargs := allV_get hav
  subst hargs
  obtain ⟨h1, h2⟩ := hpc G w vs ⟨hi.cells, hi.mps⟩ (by simpa using hl) (norm_args hnt fun i x y hx hy => by
    have := hr i (.v x) y (by rw [List.getElem?_map, hx]; rfl) hy
    cases this with
    | v _ _ h => exact h)
  refine ⟨h1, h2.mono ?_⟩
  rintro e w' ⟨v, G', rfl, hv, hok, hf, hnew, hs⟩
  obtain ⟨G2, q1, q2, q3, q4, q5⟩ := PCPost.caller hi hok hf hnew (fun b => Iff.rfl) hs
  exact ⟨v, _, s, G2, rfl, hk, .v _ _ (q5 _ _ hv), rfl, q1, q2, q3, Nat.le_refl _, q4⟩

theorem PC.of (htt : TTOK P tt) (hcs : CallS P call) (hcd : CallDet call) (hmix : P.follows .mixedOrders = true) {f : FuncId} {fn : Func} (hf : P.funcs[f]? = some fn)
    (hname : fn.name ≠ "runtime.NumGoroutine") {md : Mds} {msk : Nat → List Bool × Nat} {args : List V} {r : V}
    (h : fnK tt call md msk fn (args.map .v) ⟨[], [], ⟨0, []⟩⟩ fun x s' => frz s'.hp x fun v => v.norm = r ∧ r.nt = true) : PC P f args r := by
  intro G w vs hok hl hr
  have hb : fn.body.isSome = true := by
    unfold fnK at h
    split at h
    · rename_i hb; rw [hb]; rfl
    · exact h.elim
  refine ⟨⟨fn, hf, hname, hb⟩, ?_⟩
  have := fnK_sound (s := ⟨[], [], ⟨0, []⟩⟩) htt hcs hcd hmix hf h hok.inv (by simpa using hl) (fun i x y hx hy => by
    rw [List.getElem?_map] at hx
    cases ha : args[i]? with
    | none => rw [ha] at hx; cases hx
    | some q => rw [ha] at hx; cases hx; exact .v _ _ (hr i q y ha hy))
  refine this.mono ?_
  rintro e w' ⟨v, x, s', G', rfl, hk, hx, -, hi', hf', -, -, hs⟩
  obtain ⟨r', ⟨rfl, hnt⟩, hv⟩ := frz_sound hk hi' hx
  have hold := fzAll_old hi'
  exact ⟨v, G'.fzAll (mnOf G w) w', rfl, (hv.norm).bare hnt, fzAll_ok hi', ⟨fun b o v h => fzAll_fz.cell b o v (hf'.cell b o v h), fun r e h => fzAll_fz.mp r e (hf'.mp r e h), fun _ _ h => (by cases h), fun _ _ _ _ h => by cases h⟩,
    ⟨fun b o v h => hold.1 b o v h, fun r e h => hold.2 r e h⟩, hs⟩

theorem Cd.flat_bare {G G' : Gh} : ∀ (c : Cd), c.flat = true → ∀ (x : c.T) (q : V), q ∈ c.cells x → ∀ y, VR G q y → VR G' q y
  | .unit, _, x, q, hq, y, h => by simp [Cd.cells] at hq
  | .int k, _, x, q, hq, y, h => by simp [Cd.cells] at hq; subst hq; cases h; exact .int k x
  | .bool, _, x, q, hq, y, h => by simp [Cd.cells] at hq; subst hq; cases h; exact .bool x
  | .str, _, x, q, hq, y, h => by simp [Cd.cells] at hq; subst hq; cases h; exact .str x
  | .slice _, hf, x, q, hq, y, h => by simp [Cd.flat] at hf
  | .pair a b, hf, x, q, hq, y, h => by
    simp only [Cd.flat, Bool.and_eq_true] at hf
    simp only [Cd.cells, List.mem_append] at hq
    rcases hq with hq | hq
    · exact Cd.flat_bare a hf.1 x.1 q hq y h
    · exact Cd.flat_bare b hf.2 x.2 q hq y h

theorem flat_enc {G G' : Gh} {c : Cd} (hf : c.flat = true) {x : c.T} {y : Value} (h : VR G (c.enc x) y) : VR G' (c.enc x) y := by
  cases c with
  | unit =>
    cases h with
    | agg _ vs hl ho hh => exact .agg _ vs hl ho fun i q u hq hu => by simp at hq
  | int k => cases h; exact .int k x
  | bool => cases h; exact .bool x
  | str => cases h; exact .str x
  | slice c => simp [Cd.flat] at hf
  | pair a b =>
    cases h with
    | agg _ vs hl ho hh => exact .agg _ vs hl ho fun i q u hq hu => Cd.flat_bare (.pair a b) hf x q (List.mem_of_getElem? hq) u (hh i q u hq hu)

theorem flat_V {G G' : Gh} {c : Rc} (hf : c.flat = true) {x : c.T} {y : Value} (h : VR G (c.V x) y) : VR G' (c.V x) y := by
  cases c with
  | cd c => exact flat_enc (c := c) hf h
  | mp kc vc => cases hf

theorem flat_resVs {G G' : Gh} : ∀ (cs : List Rc), cs.all Rc.flat = true → ∀ (p : resT cs) q, q ∈ resVs cs p → ∀ y, VR G q y → VR G' q y
  | [], _, p, q, hq, y, h => by simp [resVs] at hq
  | [c], hf, p, q, hq, y, h => by
    simp [resVs] at hq
    subst hq
    exact flat_V (by simpa using hf) h
  | c :: d :: r, hf, p, q, hq, y, h => by
    simp only [List.all_cons, Bool.and_eq_true] at hf
    rcases List.mem_cons.1 hq with rfl | hq
    · exact flat_V hf.1 h
    · exact flat_resVs (d :: r) (by simp [hf.2]) p.2 q hq y h

theorem flat_resV {G G' : Gh} {cs : List Rc} (hf : cs.all Rc.flat = true) {p : resT cs} {y : Value} (h : VR G (resV cs p) y) : VR G' (resV cs p) y := by
  match cs, p, hf, h with
  | [], p, _, h =>
    cases h with
    | tup _ vs hl hh => exact .tup _ vs hl fun i q u hq hu => by simp at hq
  | [c], p, hf, h => exact flat_V (c := c) (by simpa using hf) h
  | c :: d :: r, p, hf, h =>
    cases h with
    | tup _ vs hl hh => exact .tup _ vs hl fun i q u hq hu => flat_resVs (c :: d :: r) hf p q (List.mem_of_getElem? hq) u (hh i q u hq hu)

theorem lendC_sound {E : Cx} {f : FuncId} {args : List TV} {K : TV → St → Prop} (h : lendC P E f args s K) {vs : Array Value} (hi : Inv Mine G s.hp s.T w)
    (hl : args.length = vs.size) (hr : ∀ (i : Nat) x y, args[i]? = some x → vs[i]? = some y → TR G x y) : Entered P f ∧ Calls P f vs w (CallPost Mine G s w K) := by
  unfold lendC at h
  split at h
  case h_2 => exact h.elim
  rename_i cs hsig
  split at h
  case h_2 => exact h.elim
  rename_i hflat
  obtain ⟨rs, h, hrl, hrs⟩ := frzL_sound (G := G) (G' := G.fzAll Mine w) (fun x y K h hx => frz1_sound h hi hx) args vs.toList _ h (by simpa using hl) (fun i x y hx hy => hr i x y hx (by rw [← Array.getElem?_toList]; exact hy))
  split at h
  case h_2 => exact h.elim
  rename_i hnt
  obtain ⟨p, hpc, hk⟩ := h
  obtain ⟨h1, h2⟩ := hpc (G.fzAll Mine w) w vs (fzAll_ok hi) (by simpa using hrl) (norm_args hnt fun i x y hx hy => hrs i x y hx (by rw [Array.getElem?_toList]; exact hy))
  refine ⟨h1, h2.mono ?_⟩
  rintro e w' ⟨v, G', rfl, hv, hok, hf, hnew, hs⟩
  have hokG : FzOK G w' := ⟨fun b o v h => hok.cells b o v (hf.cell b o v (fzAll_fz.cell b o v h)), fun r e h => hok.mps r e (hf.mp r e (fzAll_fz.mp r e h))⟩
  obtain ⟨G2, q1, q2, q3, q4, q5⟩ := PCPost.caller (G' := G) hi hokG (.refl _) ⟨fun b o v h => .inr h, fun r e h => .inr h⟩ (fun b => Iff.rfl) hs
  exact ⟨v, _, s, G2, rfl, hk, .v _ _ (flat_resV hflat hv), rfl, q1, q2, q3, Nat.le_refl _, q4⟩

theorem callN_det {E : Cx} (n : Nat) : CallDet (callN P E n) := by
  intro f args s K h
  have h : pureC P E f args s K := by cases n <;> exact h
  have red : ∀ s'' K', pureC P E f args s'' K' → callN P E n .dflt f args s'' K' := fun s'' K' hh => by cases n <;> exact hh
  unfold pureC at h
  split at h
  case h_2 => exact h.elim
  rename_i cs avs hsig hav
  split at h
  case h_2 => exact h.elim
  rename_i hnt
  obtain ⟨p, hpc, hk⟩ := h
  exact ⟨_, hk, fun s'' K' hk' => red s'' K' (by unfold pureC; simp only [hsig, hav, hnt]; exact ⟨p, hpc, hk'⟩)⟩

/-- the functions that are entered are the program's -/
def FnsOK (P : Program) (E : Cx) : Prop := ∀ f fn, assoc f E.fns = some fn → P.funcs[f]? = some fn ∧ fn.name ≠ "runtime.NumGoroutine"

theorem callN_sound {E : Cx} (htt : TTOK P E.tt) (hmix : P.follows .mixedOrders = true) (hfn : FnsOK P E) : ∀ n, CallS P (callN P E n) := by
  intro n
  induction n with
  | zero =>
    intro md f args s K h Mine G w vs hi hl hr
    cases md with
    | dflt => exact pureC_sound h hi hl hr
    | lend => exact lendC_sound h hi hl hr
    | inl => exact h.elim
    | «mut» => exact h.elim
  | succ n ih =>
    intro md f args s K h Mine G w vs hi hl hr
    cases md with
    | dflt => exact pureC_sound h hi hl hr
    | lend => exact lendC_sound h hi hl hr
    | inl =>
      unfold callN at h
      split at h
      · rename_i fn hfn'
        obtain ⟨h1, h2⟩ := hfn f fn hfn'
        have hb : fn.body.isSome = true := by
          unfold fnK at h
          split at h
          · rename_i hb; rw [hb]; rfl
          · exact h.elim
        exact ⟨⟨fn, h1, h2, hb⟩, fnK_sound htt ih (callN_det n) hmix h1 h hi hl hr⟩
      · exact h.elim
    | «mut» => exact h.elim

end
end Go.Proofs.Ytaaedebknacheaa.AB

set_option linter.unusedVariables false
set_option linter.unusedSimpArgs false
namespace Go.Proofs.Ytaaedebknacheaa.AB
open Go

def strctB (tt : TT) : List (Nat × Nat) → List Field → Bool
  | [], [] => true
  | (off, ft) :: l, f :: r => Nat.beq f.offset off && Nat.beq f.type ft && (tt.at ft).ok && strctB tt l r
  | _, _ => false

def kokB (tt : TT) : TK → TypeDesc → Bool
  | .bool, .bool => true
  | .int k, .int k' => decide (k' = k)
  | .str, .string => true
  | .ptr e, .pointer e' => Nat.beq e' e
  | .slice e, .slice e' => Nat.beq e' e
  | .arr n e, .array n' e' => Nat.beq n' n && Nat.beq e' e && (tt.at e).ok
  | .map k e, .map k' e' => Nat.beq k' k && Nat.beq e' e && (tt.at k).ok && (tt.at e).ok
  | .strct fs, .struct fields => strctB tt fs fields.toList
  | .iface, .interface _ => true
  | .func, .func _ _ _ => true
  | _, _ => false

theorem strctB_spec {tt : TT} : ∀ {fs : List (Nat × Nat)} {l : List Field}, strctB tt fs l = true → fs.length = l.length ∧ ∀ (i : Nat) off ft, fs[i]? = some (off, ft) →
    ∃ f, l[i]? = some f ∧ f.offset = off ∧ f.type = ft ∧ (tt.at ft).ok = true
  | [], [], _ => ⟨rfl, fun i off ft h => by simp at h⟩
  | [], _ :: _, h => by simp [strctB] at h
  | _ :: _, [], h => by simp [strctB] at h
  | (off, ft) :: fs, f :: l, h => by
    simp only [strctB, Bool.and_eq_true] at h
    obtain ⟨⟨⟨h1, h2⟩, h3⟩, h4⟩ := h
    obtain ⟨k1, k2⟩ := strctB_spec h4
    refine ⟨by simp [k1], fun i off' ft' hi => ?_⟩
    cases i with
    | zero => simp at hi; obtain ⟨rfl, rfl⟩ := hi; exact ⟨f, rfl, Nat.eq_of_beq_eq_true h1, Nat.eq_of_beq_eq_true h2, h3⟩
    | succ i => simpa using k2 i off' ft' (by simpa using hi)

theorem kokB_spec {tt : TT} {k : TK} {d : TypeDesc} (h : kokB tt k d = true) : KOK tt k d := by
  unfold kokB at h
  split at h <;> first
    | rfl
    | (cases h; done)
    | skip
  · exact congrArg _ (of_decide_eq_true h)
  · exact congrArg _ (Nat.eq_of_beq_eq_true h)
  · exact congrArg _ (Nat.eq_of_beq_eq_true h)
  · simp only [Bool.and_eq_true] at h
    rw [Nat.eq_of_beq_eq_true h.1.1, Nat.eq_of_beq_eq_true h.1.2]
    exact ⟨rfl, h.2⟩
  · simp only [Bool.and_eq_true] at h
    rw [Nat.eq_of_beq_eq_true h.1.1.1, Nat.eq_of_beq_eq_true h.1.1.2]
    exact ⟨rfl, h.1.2, h.2⟩
  · rename_i fs fields
    obtain ⟨h1, h2⟩ := strctB_spec h
    refine ⟨fields, rfl, by simpa using h1, fun i off ft hi => ?_⟩
    obtain ⟨f, q1, q2⟩ := h2 i off ft hi
    exact ⟨f, by rw [← Array.getElem?_toList]; exact q1, q2⟩
  · exact ⟨_, rfl⟩
  · exact ⟨_, _, _, rfl⟩

/-- the zero of one cell -/
def vrZ : V → Value → Bool
  | .int k n, .int k' n' => decide (k' = k) && decide (n' = n)
  | .ff, .bool b => !b
  | .bool b, .bool b' => b == b'
  | .str l, .string s => l.isEmpty && s.data.toList.isEmpty
  | .list _ l .exact, .slice none n c => l.isEmpty && Nat.beq n 0 && Nat.beq c 0
  | .nils, .slice none n c => Nat.beq n 0 && Nat.beq c 0
  | .nilp, .pointer none => true
  | .nilm, .map none => true
  | .nilf, .nilFunc => true
  | .nili, .nilIface => true
  | _, _ => false

theorem vrZ_spec {G : Gh} {x : V} {y : Value} (h : vrZ x y = true) : VR G x y := by
  unfold vrZ at h
  split at h
  · simp only [Bool.and_eq_true, decide_eq_true_eq] at h
    obtain ⟨rfl, rfl⟩ := h
    exact .int _ _
  · rename_i b
    cases b
    · exact .ff
    · cases h
  · rename_i b b'
    have : b = b' := by simpa using h
    subst this; exact .bool _
  · rename_i l s
    simp only [Bool.and_eq_true, List.isEmpty_iff] at h
    obtain ⟨rfl, h⟩ := h
    obtain ⟨⟨d⟩⟩ := s
    simp at h
    subst h
    exact .str []
  · rename_i c l n cp
    simp only [Bool.and_eq_true, List.isEmpty_iff] at h
    obtain ⟨⟨rfl, hn⟩, hc⟩ := h
    rw [Nat.eq_of_beq_eq_true hn, Nat.eq_of_beq_eq_true hc]
    exact VR.list c [] .exact none 0 0 0 (fun _ => Go.undef) (fun h => absurd rfl h) (Nat.le_refl _) (fun i x hx => by simp at hx) (fun i x hx => by simp at hx) (fun i x hx => by simp at hx) rfl
  · simp only [Bool.and_eq_true] at h
    rw [Nat.eq_of_beq_eq_true h.1, Nat.eq_of_beq_eq_true h.2]
    exact .nils
  · exact .nilp
  · exact .nilm
  · exact .nilf
  · exact .nili
  · cases h

def vrZL : List V → List Value → Bool
  | [], [] => true
  | x :: l, y :: r => vrZ x y && y.oneCell' && vrZL l r
  | _, _ => false

theorem vrZL_spec {G : Gh} : ∀ {l : List V} {vs : List Value}, vrZL l vs = true → l.length = vs.length ∧ (∀ y ∈ vs, y.oneCell' = true) ∧ ∀ (i : Nat) x y, l[i]? = some x → vs[i]? = some y → VR G x y
  | [], [], _ => ⟨rfl, fun y hy => (by cases hy), fun i x y hx => by simp at hx⟩
  | [], _ :: _, h => by simp [vrZL] at h
  | _ :: _, [], h => by simp [vrZL] at h
  | x :: l, v :: vs, h => by
    simp only [vrZL, Bool.and_eq_true] at h
    obtain ⟨h1, h2, h3⟩ := vrZL_spec (G := G) h.2
    refine ⟨by simp [h1], fun y hy => ?_, fun i x' y hx hy => ?_⟩
    · rcases List.mem_cons.1 hy with rfl | hy
      · exact h.1.2
      · exact h2 y hy
    · cases i with
      | zero => simp at hx hy; subst hx hy; exact vrZ_spec h.1.1
      | succ i => exact h3 i x' y (by simpa using hx) (by simpa using hy)

def vrZT : V → Value → Bool
  | .agg l, .agg vs => vrZL l vs.toList
  | x, y => vrZ x y

theorem vrZT_spec {G : Gh} {x : V} {y : Value} (h : vrZT x y = true) : VR G x y := by
  unfold vrZT at h
  split at h
  · rename_i l vs
    obtain ⟨h1, h2, h3⟩ := vrZL_spec (G := G) h
    exact .agg l vs.toList h1 h2 h3
  · exact vrZ_spec h

def zeroB (k : TK) (z : Value) : Bool :=
  match k.isSl, z with
  | true, .slice none n c => Nat.beq n 0 && Nat.beq c 0
  | true, _ => false
  | false, _ => true

def tiB (P : Program) (tt : TT) (t : Nat) (ti : TI) : Bool :=
  match P.underlying t, P.info? t with
  | some d, some i => kokB tt ti.k d && match i.zero with
    | some z => Nat.beq i.size ti.size && Nat.beq i.bytes ti.bytes && vrZT ti.zero z && Nat.beq z.cells.size ti.size && Nat.beq ti.zero.cells.length ti.size && z.cells.all (·.oneCell') &&
        (!ti.cok || (Nat.beq ti.code.sz ti.size && Nat.blt 0 ti.size && Nat.blt 0 ti.bytes)) && zeroB ti.k z
    | none => false
  | _, _ => false

theorem tiB_spec {P : Program} {tt : TT} {t : Nat} {ti : TI} (h : tiB P tt t ti = true) : TIOK P tt t ti := by
  unfold tiB at h
  split at h
  case h_2 => cases h
  rename_i d i hd hi
  rw [Bool.and_eq_true] at h
  obtain ⟨hk, h⟩ := h
  split at h
  case h_2 => cases h
  rename_i z hz
  simp only [Bool.and_eq_true] at h
  obtain ⟨⟨⟨⟨⟨⟨⟨h1, h2⟩, h3⟩, h4⟩, h5⟩, h6⟩, h7⟩, h8⟩ := h
  refine ⟨⟨d, hd, kokB_spec hk⟩, ⟨i, z, hi, hz, Nat.eq_of_beq_eq_true h1, Nat.eq_of_beq_eq_true h2, fun G => vrZT_spec h3, Nat.eq_of_beq_eq_true h4, Nat.eq_of_beq_eq_true h5, h6⟩, fun hc => ?_, fun hs => ⟨i, hi, ?_⟩⟩
  rotate_left
  · unfold zeroB at h8
    rw [hs] at h8
    split at h8
    · simp only [Bool.and_eq_true] at h8
      rw [hz, Nat.eq_of_beq_eq_true h8.1, Nat.eq_of_beq_eq_true h8.2]
    · cases h8
    · rename_i q; cases q
  rw [hc] at h7
  simp only [Bool.not_true, Bool.false_or, Bool.and_eq_true] at h7
  obtain ⟨⟨q1, q2⟩, q3⟩ := h7
  rw [Nat.blt_eq] at q2 q3
  exact ⟨Nat.eq_of_beq_eq_true q1, q2, q3⟩

def ttB (P : Program) (tt : TT) : Nat → List TI → Bool
  | _, [] => true
  | n, ti :: l => (!ti.ok || tiB P tt n ti) && ttB P tt (n + 1) l

theorem ttB_spec {P : Program} {tt : TT} : ∀ (l : List TI) (n : Nat), ttB P tt n l = true → ∀ (i : Nat) ti, l[i]? = some ti → ti.ok = true → TIOK P tt (n + i) ti
  | [], n, _, i, ti, h, _ => by simp at h
  | x :: l, n, h, i, ti, hi, hok => by
    simp only [ttB, Bool.and_eq_true] at h
    cases i with
    | zero =>
      simp at hi; subst hi
      have := h.1
      rw [hok] at this
      exact tiB_spec (by simpa using this)
    | succ i =>
      have := ttB_spec l (n + 1) h.2 i ti (by simpa using hi) hok
      rwa [Nat.add_assoc, Nat.add_comm 1 i] at this

theorem ttok_of {P : Program} {tt : TT} (h : ttB P tt 0 tt = true) : TTOK P tt := by
  intro t ht
  unfold TT.at at ht ⊢
  simp only [List.getD] at ht ⊢
  cases hx : tt[t]? with
  | none => rw [hx] at ht; cases ht
  | some ti =>
    rw [hx] at ht
    have := ttB_spec tt 0 h t ti hx ht
    rw [Nat.zero_add] at this
    exact this

/-- functions that are entered, checked -/
def fnsB (P : Program) : List (Nat × Func) → Prop
  | [] => True
  | (f, fn) :: l => P.funcs[f]? = some fn ∧ fn.name ≠ "runtime.NumGoroutine" ∧ fnsB P l

theorem fnsB_spec {P : Program} : ∀ {l : List (Nat × Func)}, fnsB P l → ∀ f fn, assoc f l = some fn → P.funcs[f]? = some fn ∧ fn.name ≠ "runtime.NumGoroutine"
  | [], _, f, fn, h => by cases h
  | (k, g) :: l, hb, f, fn, h => by
    unfold assoc at h
    split at h
    · rename_i e
      cases h
      rw [← Nat.eq_of_beq_eq_true e]
      exact ⟨hb.1, hb.2.1⟩
    · exact fnsB_spec hb.2.2 f fn h

/-! the words of the printed formulas -/

/-- a list of slots, all but the told ones unknown -/
def mkL : Nat → Nat → List (Nat × TV) → List TV
  | 0, _, _ => []
  | n + 1, i, [] => tu :: mkL n (i + 1) []
  | n + 1, i, (k, x) :: l => match Nat.beq k i with
    | true => x :: mkL n (i + 1) l
    | false => tu :: mkL n (i + 1) ((k, x) :: l)

def mkS (n : Nat) (l : List (Nat × TV)) (hp : Hp) (T : Toks) : St := ⟨mkL n 0 l, hp, T⟩

def mkM : Nat → Nat → List Nat → List Bool
  | 0, _, _ => []
  | n + 1, i, [] => false :: mkM n (i + 1) []
  | n + 1, i, k :: l => match Nat.beq k i with
    | true => true :: mkM n (i + 1) l
    | false => false :: mkM n (i + 1) (k :: l)

def bd (f : Func) : Code := match f.body with
  | some c => c
  | none => .skip

def codeAt : List Nat → Code → Code
  | [], c => c
  | n :: p, c => match c with
    | .seq x y => codeAt p (match n with
      | 0 => x
      | _ => y)
    | .block _ c => codeAt p c
    | .loop c => codeAt p c
    | .cond _ x y => codeAt p (match n with
      | 0 => x
      | _ => y)
    | _ => .skip

def regOps : Code → Array Oper
  | .region _ ops _ => ops
  | _ => #[]

/-- a thing that is not to be looked into -/
structure Wrap (p : Prop) : Prop where
  out : p

theorem Wrap.cast {p q : Prop} (e : p = q) (h : Wrap p) : Wrap q := by subst e; exact h

/-- the result of a whole function -/
def topK (R : V → Prop) (x : TV) (s : St) : Prop := frz s.hp x R

/-- once more, with less to go -/
def Again {α : Type} (st : α → St) (J : α → Prop) (μ : α → Nat) (n : Nat) (s : St) : Prop := ∃ n', n' < n ∧ ∃ a, s = st a ∧ J a ∧ μ a = n'

theorem Again.mk {α : Type} {st : α → St} {J : α → Prop} {μ : α → Nat} {n : Nat} {s : St} (a : α) (hs : s = st a) (hJ : J a) (hn : μ a < n) : Again st J μ n s :=
  ⟨μ a, hn, a, hs, hJ, rfl⟩

theorem Loops.intro {α : Type} {body : (Exit → St → Prop) → St → Prop} {m : List Bool × Nat} {Q : Exit → St → Prop} {s : St} (st : α → St) (J : α → Prop) (μ : α → Nat) (a0 : α) (h0 : s = st a0) (hJ : J a0)
    (step : ∀ a, J a → body (loopQ m (Again st J μ (μ a)) Q) (st a)) : Loops body m Q s := by
  refine ⟨fun n s => ∃ a, s = st a ∧ J a ∧ μ a = n, ⟨_, a0, h0, hJ, rfl⟩, ?_⟩
  rintro n s ⟨a, rfl, hJa, rfl⟩
  exact step a hJa

end Go.Proofs.Ytaaedebknacheaa.AB

set_option linter.unusedVariables false
set_option linter.unusedSimpArgs false
namespace Go.Proofs.Ytaaedebknacheaa.AB
open Go

/-- all of memory, frozen -/
def ghW (w : World) : Gh := ⟨fun b o => w.cell? ⟨b, o, none⟩, fun r => match w.heap[r]? with
  | some (.map ents _) => some (ents.toList.map fun m => (m.key, m.val))
  | _ => none, fun _ => none, fun _ _ => none⟩

theorem ghW_ok (w : World) : FzOK (ghW w) w := by
  refine ⟨fun b o v h => h, fun r es h => ?_⟩
  simp only [ghW] at h
  split at h
  · rename_i ents ck he
    cases h
    exact ⟨ents, ck, he, rfl⟩
  · cases h

mutual
/-- does a type fit a code? (fuel) -/
def fitB (tt : TT) : Nat → Cd → Nat → Bool
  | 0, _, _ => false
  | n + 1, c, t => (tt.at t).ok && match c, (tt.at t).k with
    | .int k, .int k' => decide (k = k')
    | .bool, .bool => true
    | .str, .str => true
    | .slice c, .slice e => Nat.beq (tt.at e).size c.sz && Nat.blt 0 c.sz && fitB tt n c e
    | c, .strct fs => Nat.beq (tt.at t).size c.sz && fitFs tt n 0 c fs
    | _, _ => false
def fitFs (tt : TT) : Nat → Nat → Cd → List (Nat × Nat) → Bool
  | 0, _, _, _ => false
  | n + 1, off, c, fs => match fs with
    | [] => (match c with
      | .unit => true
      | _ => false)
    | [(o, t)] => (match c with
      | .pair a .unit => Nat.beq o off && Nat.beq (tt.at t).size a.sz && fitB tt n a t
      | c => Nat.beq o off && Nat.beq (tt.at t).size c.sz && fitB tt n c t)
    | (o, t) :: r => match c with
      | .pair a b => Nat.beq o off && Nat.beq (tt.at t).size a.sz && fitB tt n a t && fitFs tt n (off + a.sz) b r
      | _ => false
end

/-- the bounds that data of the start keep -/
def Cd.wf : (c : Cd) → c.T → Prop
  | .unit, _ => True
  | .int k, n => k.min ≤ (n : Int) ∧ (n : Int) ≤ k.max
  | .bool, _ => True
  | .str, s => (s : List UInt8).length ≤ maxLen
  | .slice c, l => List.length l ≤ maxLen ∧ ∀ x ∈ (l : List c.T), c.wf x
  | .pair a b, p => a.wf p.1 ∧ b.wf p.2

/-- how much there is of data -/
def Cd.wt : (c : Cd) → c.T → Nat
  | .unit, _ => 0
  | .int _, _ => 0
  | .bool, _ => 0
  | .str, s => (s : List UInt8).length
  | .slice c, l => List.length l + (List.map c.wt l).sum
  | .pair a b, p => a.wt p.1 + b.wt p.2

/-- a measure of what is read -/
structure Bk (H : Type) where
  b : DataW H → Nat
  bs : List (DataW H) → Nat
  nil : bs [] = 0
  cons : ∀ d r, bs (d :: r) = b d + bs r
  pos : ∀ d, 1 ≤ b d
  slice : ∀ e s, bs e + 1 ≤ b (.slice e s)
  agg : ∀ l, bs l + 1 ≤ b (.agg l)
  str : ∀ l, l.length + 1 ≤ b (.lit (.string l))

theorem bk_le2 {H α : Type} (B : Bk H) (f : α → Nat) : ∀ (l : List α) (ds : List (DataW H)), l.length = ds.length → (∀ (i : Nat) v d, l[i]? = some v → ds[i]? = some d → f v + 1 ≤ B.b d) → l.length + (l.map f).sum ≤ B.bs ds
  | [], [], _, _ => Nat.zero_le _
  | v :: l, d :: ds, hl, h => by
    rw [B.cons]
    have h0 := h 0 v d rfl rfl
    have := bk_le2 B f l ds (by simpa using hl) (fun i v d hv hd => h (i + 1) v d (by simpa using hv) (by simpa using hd))
    simp only [List.map_cons, List.sum_cons, List.length_cons]
    omega
  | [], _ :: _, hl, _ => by simp at hl
  | _ :: _, [], hl, _ => by simp at hl

def sumN (f : Nat → Nat) : Nat → Nat
  | 0 => 0
  | n + 1 => f 0 + sumN (fun i => f (i + 1)) n

theorem sumN_bs {H : Type} (B : Bk H) (z : DataW H) : ∀ (ds : List (DataW H)), sumN (fun i => B.b (ds.getD i z)) ds.length = B.bs ds
  | [] => by rw [B.nil]; rfl
  | d :: ds => by
    rw [B.cons, ← sumN_bs B z ds]
    rfl

theorem pick_list {α : Type} {Q : Nat → α → Prop} : ∀ n, (∀ i, i < n → ∃ v, Q i v) → ∃ l : List α, l.length = n ∧ ∀ i v, l[i]? = some v → Q i v
  | 0, _ => ⟨[], rfl, fun i v h => by simp at h⟩
  | n + 1, h => by
    obtain ⟨l, h1, h2⟩ := pick_list n fun i hi => h i (by omega)
    obtain ⟨v, hv⟩ := h n (by omega)
    refine ⟨l ++ [v], by simp [h1], fun i u hu => ?_⟩
    rcases Nat.lt_or_ge i l.length with hi | hi
    · rw [List.getElem?_append_left hi] at hu; exact h2 i u hu
    · rw [List.getElem?_append_right hi] at hu
      have hi0 : i - l.length = 0 := by
        have := (List.getElem?_eq_some_iff.1 hu).1
        simp at this; omega
      rw [hi0] at hu
      simp at hu
      have : i = n := by omega
      subst this; subst hu; exact hv

theorem cells?_get {w : World} {base n : Nat} {ad : Addr} {cs : List Value} (h : w.cells? base ad n = some cs) : cs.length = n ∧ ∀ (j : Nat) u, cs[j]? = some u → w.cell? (ad.add j) = some u := by
  unfold World.cells? at h
  split at h
  · refine ⟨by simpa using mapM_some_length h, fun j u hu => ?_⟩
    have hj : j < n := by
      have := (List.getElem?_eq_some_iff.1 hu).1
      rw [show cs.length = n by simpa using mapM_some_length h] at this
      exact this
    have := mapM_some_get h j j (by simp [hj])
    rw [this]; exact hu
  · cases h

theorem cell_spot {w : World} {ad : Addr} {u : Value} (h : w.cell? ad = some u) : ad.spot = none := by
  unfold World.cell? at h
  split at h
  · cases hs : ad.spot with
    | none => rfl
    | some z => rw [hs] at h; simp at h
  · cases h

theorem add_cell {w : World} {ad : Addr} {x j : Nat} {u : Value} (h : w.cell? ((ad.add x).add j) = some u) : w.cell? ⟨ad.block, ad.off + (x + j), none⟩ = some u ∧ (x + j = 0 → ad.spot = none) := by
  by_cases hx : x = 0
  · by_cases hj : j = 0
    · subst hx hj
      have h : w.cell? ad = some u := by simpa [Addr.add] using h
      have hs := cell_spot h
      obtain ⟨b, o, sp⟩ := ad
      simp only at hs
      subst hs
      exact ⟨h, fun _ => rfl⟩
    · subst hx
      exact ⟨by simpa [Addr.add, hj] using h, fun e => by omega⟩
  · refine ⟨?_, fun e => by omega⟩
    by_cases hj : j = 0
    · subst hj
      simpa [Addr.add, hx] using h
    · simpa [Addr.add, hx, hj, Nat.add_assoc] using h

section
variable {P : Program} {tt : TT} {w : World} {H : Type} {encH : TypeId × Value → H} {base : Nat} {spare : Nat → Bool} {held : Bool}

def Fits (w : World) (c : Cd) (v : c.T) (off : Nat) (cs : List Value) : Prop :=
  c.wf v ∧ ∀ (j : Nat) q u, (c.cells v)[j]? = some q → cs[off + j]? = some u → VR (ghW w) q u ∧ u.oneCell' = true

theorem cellsOf_eq (htt : TTOK P tt) {t : Nat} (hok : (tt.at t).ok = true) : P.cellsOf t = (tt.at t).size := by
  obtain ⟨i, z, h1, _, h3, _⟩ := (htt t hok).info
  unfold Program.cellsOf
  rw [h1]; exact h3

theorem trod_VR (htt : TTOK P tt) : ∀ n,
    (∀ (c : Cd) (t : Nat), fitB tt n c t = true → ∀ fuel cs x, DataW.trod encH P w base spare held fuel t cs = some x → ∃ v : c.T, Fits w c v 0 cs ∧ ∀ B : Bk H, c.wt v + 1 ≤ B.b x.1) ∧
    (∀ (off : Nat) (c : Cd) (fs : List (Nat × Nat)), fitFs tt n off c fs = true → ∀ (cs : List Value) (m : Nat) (xs : Nat → DataW H × List MemPlace),
      (∀ (i : Nat) o t, fs[i]? = some (o, t) → DataW.trod encH P w base spare held m t ((cs.drop o).take (tt.at t).size) = some (xs i)) → ∃ v : c.T, Fits w c v off cs ∧ ∀ B : Bk H, c.wt v ≤ sumN (fun i => B.b (xs i).1) fs.length) := by
  intro n
  induction n with
  | zero => exact ⟨fun c t h => by simp [fitB] at h, fun off c fs h => by simp [fitFs] at h⟩
  | succ n ih =>
    obtain ⟨ih1, ih2⟩ := ih
    refine ⟨fun c t h fuel cs x hx => ?_, fun off c fs h cs m xs hm => ?_⟩
    · unfold fitB at h
      rw [Bool.and_eq_true] at h
      obtain ⟨hok, h⟩ := h
      obtain ⟨d, hd, hk⟩ := (htt t hok).und
      split at h
      · rename_i k k' hkt
        have hkk : k = k' := of_decide_eq_true h
        subst hkk
        rw [hkt] at hk
        simp only [KOK] at hk
        subst hk
        obtain ⟨z, rfl, _, hwf⟩ := DataW.trod_int hd hx
        simp only [Lit.wf, Bool.and_eq_true, decide_eq_true_eq] at hwf
        refine ⟨z, ⟨hwf, fun j q u hq hu => ?_⟩, fun B => B.pos _⟩
        cases j with
        | zero => simp [Cd.cells] at hq hu; subst hq hu; exact ⟨.int k z, rfl⟩
        | succ j => simp [Cd.cells] at hq
      · rename_i hkt
        rw [hkt] at hk
        simp only [KOK] at hk
        subst hk
        obtain ⟨b, rfl, _⟩ := DataW.trod_bool hd hx
        refine ⟨b, ⟨trivial, fun j q u hq hu => ?_⟩, fun B => B.pos _⟩
        cases j with
        | zero => simp [Cd.cells] at hq hu; subst hq hu; exact ⟨.bool b, rfl⟩
        | succ j => simp [Cd.cells] at hq
      · rename_i hkt
        rw [hkt] at hk
        simp only [KOK] at hk
        subst hk
        obtain ⟨z, rfl, rfl, hl⟩ := DataW.trod_string hd hx
        refine ⟨z.data.toList, ⟨hl, fun j q u hq hu => ?_⟩, fun B => B.str z.data.toList⟩
        cases j with
        | zero =>
          simp [Cd.cells] at hq hu; subst hq hu
          have := VR.str (G := ghW w) z.data.toList
          exact ⟨this, rfl⟩
        | succ j => simp [Cd.cells] at hq
      · rename_i c' e hkt
        rw [hkt] at hk
        simp only [KOK] at hk
        subst hk
        simp only [Bool.and_eq_true] at h
        obtain ⟨⟨h1, h2⟩, h3⟩ := h
        have hoke : (tt.at e).ok = true := by
          cases n with
          | zero => simp [fitB] at h3
          | succ n => unfold fitB at h3; rw [Bool.and_eq_true] at h3; exact h3.1
        have hsz : P.cellsOf e = c'.sz := by rw [cellsOf_eq htt hoke]; exact Nat.eq_of_beq_eq_true h1
        rw [Nat.blt_eq] at h2
        rcases DataW.trod_slice hd hx with ⟨rfl, _⟩ | ⟨ad, len, cap, elems, rest, m, _, rfl, rfl, _, hlc, hcap, hel, helem, _, _⟩
        · refine ⟨[], ⟨⟨Nat.zero_le _, fun x hx => by cases hx⟩, fun j q u hq hu => ?_⟩, fun B => B.pos _⟩
          cases j with
          | zero =>
            simp [Cd.cells] at hq hu; subst hq hu
            exact ⟨VR.list c' [] .no none 0 0 0 (fun _ => Go.undef) (fun h => absurd rfl h) (Nat.le_refl _) (fun i x hx => by simp at hx) (fun i x hx => by simp at hx) (fun i x hx => by simp at hx) trivial, rfl⟩
          | succ j => simp [Cd.cells] at hq
        · have each : ∀ i, i < len → ∃ v : c'.T, (c'.wf v ∧ ∀ (j : Nat) q, (c'.cells v)[j]? = some q → ∃ u, w.cell? ((ad.add (i * c'.sz)).add j) = some u ∧ VR (ghW w) q u ∧ u.oneCell' = true) ∧ ∀ (d : DataW H × List MemPlace), elems[i]? = some d → ∀ B : Bk H, c'.wt v + 1 ≤ B.b d.1 := by
            intro i hi
            have he := helem i hi
            rw [hsz, List.getElem?_eq_getElem (by omega), Option.bind_eq_some_iff] at he
            obtain ⟨ci, hci, htr⟩ := he
            obtain ⟨v, ⟨hv1, hv2⟩, hv3⟩ := ih1 c' e h3 _ _ _ htr
            obtain ⟨hl, hg⟩ := cells?_get hci
            refine ⟨v, ⟨hv1, fun j q hq => ?_⟩, fun d hd B => by rw [List.getElem?_eq_getElem (by omega)] at hd; cases hd; exact hv3 B⟩
            have hj : j < ci.length := by
              rw [hl, ← Cd.length_cells c' v]; exact (List.getElem?_eq_some_iff.1 hq).1
            have hu : ci[j]? = some ci[j] := List.getElem?_eq_getElem hj
            obtain ⟨r1, r2⟩ := hv2 j q ci[j] hq (by rw [Nat.zero_add]; exact hu)
            exact ⟨ci[j], hg j _ hu, r1, r2⟩
          obtain ⟨l, hl1, hl2⟩ := pick_list len each
          have hat0 : ∀ (k : Nat) q, (l.flatMap c'.cells)[k]? = some q → ∃ u, w.cell? ⟨ad.block, ad.off + k, none⟩ = some u ∧ (VR (ghW w) q u ∧ u.oneCell' = true) ∧ (k = 0 → ad.spot = none) := by
            intro k q hq
            obtain ⟨i, j, x, rfl, hj, hx, hq'⟩ := flat_split c' l hq
            obtain ⟨u, r1, r2⟩ := (hl2 i x hx).1.2 j q hq'
            obtain ⟨k1, k2⟩ := add_cell r1
            exact ⟨u, k1, r2, k2⟩
          refine ⟨l, ⟨⟨by omega, fun x hx => ?_⟩, fun j q u hq hu => ?_⟩, fun B => ?_⟩
          · obtain ⟨i, hi, rfl⟩ := List.getElem_of_mem hx
            exact (hl2 i _ (List.getElem?_eq_getElem hi)).1.1
          · cases j with
            | succ j => simp [Cd.cells] at hq
            | zero =>
              simp [Cd.cells] at hq hu
              subst hq hu
              have hat : ∀ (k : Nat) q, (l.flatMap c'.cells)[k]? = some q → ∃ u, w.cell? ⟨ad.block, ad.off + k, none⟩ = some u ∧ VR (ghW w) q u ∧ u.oneCell' = true := by
                intro k q hq
                obtain ⟨u, r1, r2, _⟩ := hat0 k q hq
                exact ⟨u, r1, r2⟩
              have ha : l ≠ [] → some ad = some ⟨ad.block, ad.off, none⟩ := by
                intro hne
                cases l with
                | nil => exact absurd rfl hne
                | cons y l =>
                  have hfl : 0 < ((y :: l).flatMap c'.cells).length := by rw [length_flat]; exact Nat.mul_pos (by simp) h2
                  obtain ⟨_, _, _, this⟩ := hat0 0 _ (List.getElem?_eq_getElem hfl)
                  have := this rfl
                  cases ad
                  simp at this
                  subst this; rfl
              have hvr := VR.list (G := ghW w) c' l .no (some ad) cap ad.block ad.off (fun k => (w.cell? ⟨ad.block, ad.off + k, none⟩).getD Go.undef) ha (by omega)
                (fun k q hq => by obtain ⟨u, r1, _⟩ := hat k q hq; show w.cell? _ = _; rw [r1]; rfl)
                (fun k q hq => by obtain ⟨u, r1, r2, r3⟩ := hat k q hq; rw [r1]; exact r3)
                (fun k q hq => by obtain ⟨u, r1, r2, r3⟩ := hat k q hq; rw [r1]; exact r2) trivial
              rw [hl1] at hvr
              exact ⟨hvr, rfl⟩
          · have h1 := B.slice (elems.map (·.1)) (rest.map (·.1))
            have h3 := bk_le2 B c'.wt l (elems.map (·.1)) (by simp [hl1, hel]) (fun i v d hv hd => by
              rw [List.getElem?_map, Option.map_eq_some_iff] at hd
              obtain ⟨d', hd', rfl⟩ := hd
              exact (hl2 i v hv).2 d' hd' B)
            simp only [Cd.wt]
            omega
      · rename_i fs hkt
        rw [hkt] at hk
        obtain ⟨fields, rfl, hfl, hfs⟩ := hk
        rw [Bool.and_eq_true] at h
        obtain ⟨xs, m, _, rfl, hcl, hxl, hall⟩ := DataW.trod_struct hd hx
        obtain ⟨v, hv, hv2⟩ := ih2 0 _ fs h.2 cs m (fun i => xs.getD i (.nil, [])) (fun i o t' hi => by
          obtain ⟨f, q1, rfl, rfl, q4⟩ := hfs i o t' hi
          have := hall i f q1
          rw [cellsOf_eq htt q4] at this
          have hi' : i < xs.length := by
            rw [hxl, ← hfl]; exact (List.getElem?_eq_some_iff.1 hi).1
          rw [List.getElem?_eq_getElem hi'] at this
          rw [this]
          simp [List.getD, hi'])
        refine ⟨v, hv, fun B => ?_⟩
        have h1 := hv2 B
        have h2 := B.agg (xs.map (·.1))
        have h3 := sumN_bs B .nil (xs.map (·.1))
        have h4 : (fun i => B.b ((xs.map (·.1)).getD i .nil)) = fun i => B.b (xs.getD i (.nil, [])).1 := by
          funext i
          simp only [List.getD, List.getElem?_map]
          cases xs[i]? <;> rfl
        have h5 : fs.length = (xs.map (·.1)).length := by rw [List.length_map, hxl, ← hfl]
        rw [h4, ← h5] at h3
        show _ ≤ B.b (.agg (xs.map (·.1)))
        omega
      · cases h
    · have one : ∀ {a : Cd} {o t : Nat}, fitB tt n a t = true → (tt.at t).size = a.sz → o = off → ∀ x, DataW.trod encH P w base spare held m t ((cs.drop o).take (tt.at t).size) = some x → ∃ v : a.T, Fits w a v off cs ∧ ∀ B : Bk H, a.wt v + 1 ≤ B.b x.1 := by
        rintro a o t h1 h2 rfl x hx
        obtain ⟨v, ⟨hv1, hv2⟩, hv3⟩ := ih1 a t h1 _ _ _ hx
        refine ⟨v, ⟨hv1, fun j q u hq hu => hv2 j q u hq ?_⟩, hv3⟩
        have hj : j < a.sz := by rw [← Cd.length_cells a v]; exact (List.getElem?_eq_some_iff.1 hq).1
        rw [Nat.zero_add, List.getElem?_take, if_pos (by omega), List.getElem?_drop]
        exact hu
      unfold fitFs at h
      split at h
      · split at h
        · exact ⟨(), ⟨trivial, fun j q u hq => by simp [Cd.cells] at hq⟩, fun B => Nat.zero_le _⟩
        · cases h
      · rename_i o t
        split at h
        · rename_i a
          simp only [Bool.and_eq_true] at h
          obtain ⟨⟨h1, h2⟩, h3⟩ := h
          obtain ⟨v, ⟨hv1, hv2⟩, hv3⟩ := one h3 (Nat.eq_of_beq_eq_true h2) (Nat.eq_of_beq_eq_true h1) _ (hm 0 o t rfl)
          refine ⟨(v, ()), ⟨⟨hv1, trivial⟩, fun j q u hq hu => hv2 j q u ?_ hu⟩, fun B => by have := hv3 B; simp only [Cd.wt, sumN, List.length_cons, List.length_nil]; omega⟩
          simpa [Cd.cells] using hq
        · simp only [Bool.and_eq_true] at h
          obtain ⟨⟨h1, h2⟩, h3⟩ := h
          obtain ⟨v, hv1, hv3⟩ := one h3 (Nat.eq_of_beq_eq_true h2) (Nat.eq_of_beq_eq_true h1) _ (hm 0 o t rfl)
          exact ⟨v, hv1, fun B => by have := hv3 B; simp only [sumN, List.length_cons, List.length_nil]; omega⟩
      · rename_i o t r _
        split at h
        · rename_i a b
          simp only [Bool.and_eq_true] at h
          obtain ⟨⟨⟨h1, h2⟩, h3⟩, h4⟩ := h
          obtain ⟨v, ⟨hv1, hv2⟩, hv3⟩ := one h3 (Nat.eq_of_beq_eq_true h2) (Nat.eq_of_beq_eq_true h1) _ (hm 0 o t rfl)
          obtain ⟨u', ⟨hu1, hu2⟩, hu3⟩ := ih2 _ _ _ h4 cs m (fun i => xs (i + 1)) (fun i o t hi => hm (i + 1) o t (by simpa using hi))
          refine ⟨(v, u'), ⟨⟨hv1, hu1⟩, fun j q u hq hu => ?_⟩, fun B => by have := hv3 B; have := hu3 B; simp only [Cd.wt, sumN, List.length_cons] at *; omega⟩
          simp only [Cd.cells, List.getElem?_append, Cd.length_cells] at hq
          split at hq
          · exact hv2 j q u hq hu
          · rename_i hj
            refine hu2 (j - a.sz) q u hq ?_
            rw [show off + a.sz + (j - a.sz) = off + j by omega]; exact hu
        · cases h

end
end Go.Proofs.Ytaaedebknacheaa.AB

set_option linter.unusedVariables false
set_option linter.unusedSimpArgs false
namespace Go.Proofs.Ytaaedebknacheaa.AB
open Go Go.RowKit

theorem vr_str_len {G : Gh} {l : List UInt8} {a : ByteArray} (h : VR G (.str l) (.string a)) : l.length = a.data.toList.length := by
  cases h; simp

section
variable {P : Program} {tt : TT} {w : World} {H : Type} {encH : TypeId × Value → H} {base : Nat} {spare : Nat → Bool} {held : Bool}

/-- an argument of one cell, opened; how much there is of it -/
theorem open_oneB (htt : TTOK P tt) {n : Nat} {c : Cd} {t : Nat} (hf : fitB tt n c t = true) (hc : c.isAgg = false) {v : Value} (hv : v.cells.toList = [v]) {d : DataW H} {ps : List MemPlace}
    (h : DataW.Trod encH P w base spare held t v d ps) : ∃ x : c.T, c.wf x ∧ VR (ghW w) (c.enc x) v ∧ ∀ B : Bk H, c.wt x + 1 ≤ B.b d := by
  obtain ⟨fuel, h⟩ := h
  obtain ⟨x, ⟨hx1, hx2⟩, hx3⟩ := (trod_VR htt n).1 c t hf fuel _ _ h
  refine ⟨x, hx1, ?_, hx3⟩
  rw [hv] at hx2
  have one : ∀ q, (c.cells x)[0]? = some q → VR (ghW w) q v := fun q hq => (hx2 0 q v hq rfl).1
  cases c with
  | unit => cases hc
  | pair a b => cases hc
  | int k => exact one _ rfl
  | bool => exact one _ rfl
  | str => exact one _ rfl
  | slice c => exact one _ rfl

/-- an argument of one cell, opened -/
theorem open_one (htt : TTOK P tt) {n : Nat} {c : Cd} {t : Nat} (hf : fitB tt n c t = true) (hc : c.isAgg = false) {v : Value} (hv : v.cells.toList = [v]) {d : DataW H} {ps : List MemPlace}
    (h : DataW.Trod encH P w base spare held t v d ps) : ∃ x : c.T, c.wf x ∧ VR (ghW w) (c.enc x) v :=
  let ⟨x, h1, h2, _⟩ := open_oneB htt hf hc hv h
  ⟨x, h1, h2⟩

theorem wt_le {α : Type} (f : α → Nat) {l : List α} {x : α} (h : x ∈ l) : f x ≤ (l.map f).sum := by
  induction l with
  | nil => cases h
  | cons y l ih =>
    simp only [List.map_cons, List.sum_cons]
    rcases List.mem_cons.1 h with rfl | h
    · omega
    · have := ih h; omega

/-- the law's contract, at the start -/
theorem PC.law {f : FuncId} {args : List V} (h : PC P f args (.bool true)) {vs : Array Value} (hl : args.length = vs.size)
    (hr : ∀ (i : Nat) x y, args[i]? = some x → vs[i]? = some y → VR (ghW w) x y) :
    Calls P f vs w fun e w' => e = .returned (.bool true) ∧ Below w.heap.size w w' := by
  refine (h (ghW w) w vs (ghW_ok w) hl hr).2.mono ?_
  rintro e w' ⟨v, G', rfl, hv, _, _, _, hs⟩
  have hv' : v = .bool true := by cases hv; rfl
  subst hv'
  exact ⟨rfl, ⟨hs.os, hs.tape, hs.output, hs.size, fun k hk => hs.block k (fun hm => by
    have : w.heap.size ≤ k := hm
    omega)⟩⟩

end
end Go.Proofs.Ytaaedebknacheaa.AB

