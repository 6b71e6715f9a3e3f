/- Parts of the proof: an evaluator of code on plain values, and that it is right of the model. -/
import Derived.Test.YtaaedebknacheaaABx2
set_option linter.unusedVariables false
set_option linter.unusedSimpArgs false
namespace Go.Proofs.Ytaaedebknacheaa.AB
open Go

theorem vq_zero {x : TV} (h : vq x = 0) : ∃ y, x = .v y := by
  cases x <;> first
    | exact ⟨_, rfl⟩
    | cases h

theorem vqs_zero : ∀ {l : List TV}, vqs l = 0 → ∀ x ∈ l, ∃ y, x = .v y
  | [], _, x, hx => by cases hx
  | .v a :: l, h, x, hx => by
    rcases List.mem_cons.1 hx with rfl | hx
    · exact ⟨_, rfl⟩
    · exact vqs_zero (l := l) h x hx
  | .ptr _ _ _ _ :: _, h, _, _ => by cases h
  | .arr _ _ _ _ :: _, h, _, _ => by cases h
  | .mapr _ :: _, h, _, _ => by cases h
  | .clo _ _ :: _, h, _, _ => by cases h
  | .iter _ :: _, h, _, _ => by cases h
  | .bsl _ _ :: _, h, _, _ => by cases h
  | .agg _ :: _, h, _, _ => by cases h
  | .tup _ :: _, h, _, _ => by cases h
  | .ref _ _ _ _ :: _, h, _, _ => by cases h
  | .sl _ _ :: _, h, _, _ => by cases h
  | .mp _ _ _ :: _, h, _, _ => by cases h

def CallDet (call : CallP) : Prop := (∀ f args s K, call .dflt f args s K → ∃ x, K x s ∧ ∀ s'' K', K' x s'' → call .dflt f args s'' K') ∧
  ∀ f args s K, call .rd f args s K → ∃ x, K x s ∧ ∀ s'' K', s''.hp = s.hp → K' x s'' → call .rd f args s'' K'

/-- the operands are seen alike -/
def EvEq (tt : TT) (o : Oper) (s s'' : St) : Prop := ∀ ty, ∀ z ∈ o.op.operands, s''.ev tt ty z = s.ev tt ty z

def RunE (tt : TT) (call : CallP) (md : Md) (o : Oper) (s : St) (K : TV → St → Prop) : Prop :=
  ∃ x hp, K x ⟨s.tm, hp, s.T⟩ ∧ (cls tt md o s ≠ 2 → hp = s.hp) ∧ s.hp.length ≤ hp.length ∧
    ∀ s'' K', EvEq tt o s s'' → ((cls tt md o s = 0 ∧ K' x s'') ∨ (s''.hp = s.hp ∧ K' x ⟨s''.tm, hp, s''.T⟩)) → aop tt call md o s'' K'

/-- the same of an append to a list of ours -/
def RunEA (tt : TT) (call : CallP) (md : Md) (o : Oper) (s : St) (K : TV → St → Prop) : Prop :=
  ∃ (z : Operand) (cd : Cd) (l0 : List cd.T) (cd' : Cd) (l : List cd'.T) (tk : Tok), z ∈ o.op.operands ∧ s.ev tt 0 z = .v (.list cd l0 tk) ∧ tk.own s.T.l ∧
    K (.v (.list cd' l (.tk s.T.n))) ⟨s.tm, s.hp, ⟨s.T.n + 1, s.T.n :: tk.drop s.T.l⟩⟩ ∧
    ∀ s'' K', EvEq tt o s s'' → tk.own s''.T.l → K' (.v (.list cd' l (.tk s''.T.n))) ⟨s''.tm, s''.hp, ⟨s''.T.n + 1, s''.T.n :: tk.drop s''.T.l⟩⟩ → aop tt call md o s'' K'

def RunE0 (tt : TT) (call : CallP) (md : Md) (o : Oper) (s : St) (K : TV → St → Prop) : Prop :=
  ∃ x hp, K x ⟨s.tm, hp, s.T⟩ ∧ (cls tt md o s ≠ 2 → hp = s.hp) ∧ s.hp.length ≤ hp.length ∧
    ∀ s'' K', EvEq tt o s s'' → ((cls tt md o s = 0 ∧ K' x s'') ∨ (s''.hp = s.hp ∧ K' x ⟨s''.tm, hp, s''.T⟩)) → aop0 tt call md o s'' K'

/-- the same of an append to a list of ours, looked at alone -/
def RunEA0 (tt : TT) (call : CallP) (md : Md) (o : Oper) (s : St) (K : TV → St → Prop) : Prop :=
  ∃ (z : Operand) (cd : Cd) (l0 : List cd.T) (cd' : Cd) (l : List cd'.T) (tk : Tok), z ∈ o.op.operands ∧ s.ev tt 0 z = .v (.list cd l0 tk) ∧ tk.own s.T.l ∧
    K (.v (.list cd' l (.tk s.T.n))) ⟨s.tm, s.hp, ⟨s.T.n + 1, s.T.n :: tk.drop s.T.l⟩⟩ ∧
    ∀ s'' K', EvEq tt o s s'' → tk.own s''.T.l → K' (.v (.list cd' l (.tk s''.T.n))) ⟨s''.tm, s''.hp, ⟨s''.T.n + 1, s''.T.n :: tk.drop s''.T.l⟩⟩ → aop0 tt call md o s'' K'

section
variable {tt : TT} {call : CallP} {md : Md} {o : Oper} {s : St} {K : TV → St → Prop}

theorem RunE.of {KF : St → (TV → St → Prop) → Prop} (h : Run KF s K (cls tt md o s)) (hh : ∀ s'' K', EvEq tt o s s'' → KF s'' K' → aop tt call md o s'' K') : RunE tt call md o s K := by
  obtain ⟨x, hp, h1, h2, h3, h4⟩ := h
  exact ⟨x, hp, h1, h2, h3, fun s'' K' he h => hh s'' K' he (h4 s'' K' h)⟩

theorem RunE0.of {KF : St → (TV → St → Prop) → Prop} (h : Run KF s K (cls tt md o s)) (hh : ∀ s'' K', EvEq tt o s s'' → KF s'' K' → aop0 tt call md o s'' K') : RunE0 tt call md o s K := by
  obtain ⟨x, hp, h1, h2, h3, h4⟩ := h
  exact ⟨x, hp, h1, h2, h3, fun s'' K' he h => hh s'' K' he (h4 s'' K' h)⟩

theorem map_congr {l : List Operand} {f g : Operand → TV} (h : ∀ z ∈ l, f z = g z) : l.map f = l.map g := List.map_congr_left h

theorem parts_congr {l : List (Nat × Operand)} {f g : Operand → TV} (h : ∀ p ∈ l, f p.2 = g p.2) : (l.map fun (i, x) => (i, f x)) = (l.map fun (i, x) => (i, g x)) :=
  List.map_congr_left fun p hp => by
    obtain ⟨i, x⟩ := p
    simp only [h (i, x) hp]

theorem run_builtin {b : Builtin} {args : List TV} {ts : List Nat} {c : Nat} (hb : b = .append → c = 2) (hb2 : b = .append → ∀ c l tk r, args ≠ .v (.list c l tk) :: r) (hc : c = 0 → ∀ x ∈ args, ∃ y, x = .v y)
    (h : builtinK tt b args ts s K) : Run (builtinK tt b args ts) s K c := by
  unfold builtinK at h
  split at h
  · split at h
    · exact run_len (fun e => hc e _ (List.mem_singleton.2 rfl)) h
    · exact h.elim
  · have := hb rfl
    subst this
    split at h
    · exact run_append (fun c l tk e => hb2 rfl c l tk _ (by rw [e])) h
    · exact h.elim
  · split at h
    · rename_i hk
      exact .quiet h (fun _ _ h' => by unfold builtinK; simp only [hk]; exact h')
    · exact h.elim
  · split at h
    · rename_i hk
      exact .quiet h (fun _ _ h' => by unfold builtinK; simp only [hk]; exact h')
    · exact h.elim
  · exact h.elim

theorem aop0_run (hcd : CallDet call) (hX : isX tt md o s = false) (h3 : cls tt md o s ≠ 3) (h4 : cls tt md o s ≠ 4) (h : aop0 tt call md o s K) : RunE0 tt call md o s K := by
  unfold aop0 at h
  split at h
  case h_1 => exact h.elim
  rename_i hty
  have start : ∀ s'' K', (match o.op with
    | op => aop0 tt call md o s'' K') → aop0 tt call md o s'' K' := fun _ _ h => h
  clear start
  cases hop : o.op <;> rw [hop] at h hty <;> dsimp only at h
  case move x =>
    refine .of (KF := fun s' K' => K' (s.ev tt o.type x) s') (.quiet h fun _ _ h => h) fun s'' K' he h' => ?_
    unfold aop0; simp only [hop, hty]
    rw [he _ x (by simp [hop, Op.operands])]; exact h'
  case assign x =>
    by_cases hm : md = .mut ∧ x = .const (.slice none 0 0)
    · obtain ⟨rfl, rfl⟩ := hm
      have h : (match sliceElem tt o.type with
        | some e => K (.arr s.hp.length 0 0 0) (s.addO (.arr 0 (tt.at e).code [] (fun _ => .no)))
        | none => False) := h
      cases hse : sliceElem tt o.type with
      | none => rw [hse] at h; exact h.elim
      | some e =>
        rw [hse] at h
        have hcl : cls tt .mut o s = 2 := by simp [cls, hop, clsAs, clsBS]
        refine .of (KF := fun s' K' => K' (.arr s'.hp.length 0 0 0) (s'.addO (.arr 0 (tt.at e).code [] (fun _ => .no)))) (by
          rw [hcl]
          refine .eff (hp := s.hp ++ [some _]) (by simp) h (fun s'' _ q1 h' => ?_)
          unfold St.addO; rw [q1]; exact h') fun s'' K' he h' => ?_
        unfold aop0; simp only [hop, hty, hse]; exact h'
    · have h' : K (s.ev tt o.type x) s := by
        split at h
        · exact (hm ⟨rfl, rfl⟩).elim
        · exact h
      refine .of (KF := fun s' K' => K' (s.ev tt o.type x) s') (.quiet h' fun _ _ h => h) fun s'' K' he h' => ?_
      unfold aop0; simp only [hop, hty]
      rw [← he _ x (by simp [hop, Op.operands])] at h'
      split
      · exact (hm ⟨rfl, rfl⟩).elim
      · exact h'
  case pick c a b =>
    refine .of (run_pick h) fun s'' K' he h' => ?_
    unfold aop0; simp only [hop, hty]
    rw [he _ c (by simp [hop, Op.operands]), he _ a (by simp [hop, Op.operands]), he _ b (by simp [hop, Op.operands])]; exact h'
  case alloc e =>
    have hcl : cls tt md o s = 2 := by simp [cls, hop]
    by_cases hm : md = .mut
    · subst hm
      have h : (match sliceElem tt e with
        | some el => K (.ptr (s.hp.length + 1) 0 0 0) ((s.addO (.arr 0 (tt.at el).code [] (fun _ => .no))).addO (.box (.arr s.hp.length 0 0 0)))
        | none => False) := h
      cases hse : sliceElem tt e with
      | none => rw [hse] at h; exact h.elim
      | some el =>
        rw [hse] at h
        refine .of (KF := fun s' K' => K' (.ptr (s'.hp.length + 1) 0 0 0) ((s'.addO (.arr 0 (tt.at el).code [] (fun _ => .no))).addO (.box (.arr s'.hp.length 0 0 0)))) (by
          rw [hcl]
          refine .eff (hp := (s.hp ++ [some _]) ++ [some _]) (by simp) h (fun s'' _ q1 h' => ?_)
          unfold St.addO; rw [q1]; exact h') fun s'' K' he h' => ?_
        unfold aop0; simp only [hop, hty, hse]; exact h'
    · have h' : K (.ptr s.hp.length 0 0 0) (s.addO (.box (.v (tt.at e).zero))) := by
        split at h
        · exact (hm rfl).elim
        · exact h
      refine .of (KF := fun s' K' => K' (.ptr s'.hp.length 0 0 0) (s'.addO (.box (.v (tt.at e).zero)))) (by
        rw [hcl]
        refine .eff (hp := s.hp ++ [some _]) (by simp) h' (fun s'' _ q1 h' => ?_)
        unfold St.addO; rw [q1]; exact h') fun s'' K' he h' => ?_
      unfold aop0; simp only [hop, hty]; exact h'
  case box e x =>
    have hcl : cls tt md o s = 2 := by simp [cls, hop]
    split at h
    · rename_i hall
      refine .of (KF := fun s' K' => K' (.ptr s'.hp.length 0 0 0) (s'.addO (.box (s.ev tt e x)))) (by
        rw [hcl]
        refine .eff (hp := s.hp ++ [some _]) (by simp) h (fun s'' _ q1 h' => ?_)
        unfold St.addO; rw [q1]; exact h') fun s'' K' he h' => ?_
      unfold aop0; simp only [hop, hty]
      rw [he _ x (by simp [hop, Op.operands]), hall]; exact h'
    · exact h.elim
  case build t parts =>
    refine .of (run_build h) fun s'' K' he h' => ?_
    unfold aop0; simp only [hop, hty]
    have e := parts_congr (l := parts.toList) (f := s''.ev tt 0) (g := s.ev tt 0) fun p hp => he 0 p.2 (by
      rw [hop]
      simp only [Op.operands]
      first
        | exact Array.mem_map.2 ⟨p, Array.mem_toList_iff.1 hp, rfl⟩
        | exact List.mem_toArray.2 (List.mem_map.2 ⟨p, hp, rfl⟩))
    exact cast (congrArg (fun l => buildK tt t l s'' K') e.symm) h'
  case buildSlice t len parts =>
    have e : ∀ s'', EvEq tt o s s'' → (parts.toList.map fun (i, x) => (i, s''.ev tt 0 x)) = (parts.toList.map fun (i, x) => (i, s.ev tt 0 x)) := fun s'' he =>
      parts_congr (l := parts.toList) (f := s''.ev tt 0) (g := s.ev tt 0) fun p hp => he 0 p.2 (by
        rw [hop]
        simp only [Op.operands]
        first
          | exact Array.mem_map.2 ⟨p, Array.mem_toList_iff.1 hp, rfl⟩
          | exact List.mem_toArray.2 (List.mem_map.2 ⟨p, hp, rfl⟩))
    by_cases hm : md = .mut
    · subst hm
      have h : buildBoxK tt t len (parts.toList.map fun (i, x) => (i, s.ev tt 0 x)) s K := h
      have hcl : cls tt .mut o s = 2 := by simp [cls, hop, clsAs, clsBS]
      refine .of (by rw [hcl]; exact run_buildBox h) fun s'' K' he h' => ?_
      unfold aop0; simp only [hop, hty]
      exact cast (congrArg (fun l => buildBoxK tt t len l s'' K') (e s'' he).symm) h'
    · have h' : buildSliceK tt t len (parts.toList.map fun (i, x) => (i, s.ev tt 0 x)) s K := by
        split at h
        · exact (hm rfl).elim
        · exact h
      refine .of (run_buildSlice h') fun s'' K' he h' => ?_
      unfold aop0; simp only [hop, hty]
      exact cast (congrArg (fun l => buildSliceK tt t len l s'' K') (e s'' he).symm) h'
  case load t a =>
    refine .of (run_load (fun e => vq_zero (by simpa [cls, hop] using e)) h) fun s'' K' he h' => ?_
    unfold aop0; simp only [hop, hty]
    rw [he _ a (by simp [hop, Op.operands])]; exact h'
  case store t a x =>
    have hcl : cls tt md o s = 2 := by simp [cls, hop]
    refine .of (by rw [hcl]; exact run_store h) fun s'' K' he h' => ?_
    unfold aop0; simp only [hop, hty]
    rw [he _ a (by simp [hop, Op.operands]), he _ x (by simp [hop, Op.operands])]; exact h'
  case nilCheck x =>
    split at h
    · rename_i hn
      refine .of (KF := fun s' K' => K' (s.ev tt 0 x) s') (.quiet h fun _ _ h => h) fun s'' K' he h' => ?_
      unfold aop0; simp only [hop, hty]
      rw [he _ x (by simp [hop, Op.operands]), hn]; exact h'
    · exact h.elim
  case binOp op t x y t' =>
    by_cases hm : md = .mut
    · subst hm
      have h : binK (tt.at t).ok (tt.at t).k (Region.isConst x || Region.isConst y) op (s.ev tt 0 x) (s.ev tt 0 y) s (litK K) := h
      refine .of (run_lit (run_bin h)) fun s'' K' he h' => ?_
      unfold aop0; simp only [hop, hty]
      rw [he _ x (by simp [hop, Op.operands]), he _ y (by simp [hop, Op.operands])]; exact h'
    · by_cases hm2 : md = .lend
      · subst hm2
        exact absurd (by simp [cls, hop, clsBi]) h3
      have h' : binK (tt.at t).ok (tt.at t).k (Region.isConst x || Region.isConst y) op (s.ev tt 0 x) (s.ev tt 0 y) s K := by
        split at h
        · exact (hm rfl).elim
        · exact (hm2 rfl).elim
        · exact h
      refine .of (run_bin h') fun s'' K' he h' => ?_
      unfold aop0; simp only [hop, hty]
      rw [he _ x (by simp [hop, Op.operands]), he _ y (by simp [hop, Op.operands])]; exact h'
  case unOp op t x =>
    refine .of (run_un h) fun s'' K' he h' => ?_
    unfold aop0; simp only [hop, hty]
    rw [he _ x (by simp [hop, Op.operands])]; exact h'
  case convert src dst x =>
    refine .of (run_convert h) fun s'' K' he h' => ?_
    unfold aop0; simp only [hop, hty]
    rw [he _ x (by simp [hop, Op.operands])]; exact h'
  case makeFunc fo first caps =>
    cases fo with
    | func f =>
      dsimp only at h
      split at h
      · rename_i hfirst
        refine .of (run_makeFunc h) fun s'' K' he h' => ?_
        unfold aop0; simp only [hop, hty, hfirst]
        rw [map_congr (f := s''.ev tt 0) (g := s.ev tt 0) fun z hz => he 0 z (by rw [hop]; simp [Op.operands, Array.mem_toList_iff.1 hz])]
        exact h'
      · exact h.elim
    | _ => exact h.elim
  case makeMap t r =>
    have hcl : cls tt md o s = 2 := by simp [cls, hop]
    cases r with
    | some x => exact h.elim
    | none =>
      dsimp only at h
      split at h
      · rename_i kc vc hmc
        refine .of (KF := fun s' K' => K' (.mapr s'.hp.length) (s'.addO (.map kc vc []))) (by
          rw [hcl]
          refine .eff (hp := s.hp ++ [some _]) (by simp) h (fun s'' _ q1 h' => ?_)
          unfold St.addO; rw [q1]; exact h') fun s'' K' he h' => ?_
        unfold aop0; simp only [hop, hty, hmc]; exact h'
      · exact h.elim
  case makeSlice t l c =>
    have hcl : cls tt md o s = 2 := by simp [cls, hop]
    by_cases hm : md = .lend
    · subst hm
      have h : makeListK tt t (s.ev tt 0 l) (s.ev tt 0 c) s K := h
      refine .of (run_makeList h) fun s'' K' he h' => ?_
      unfold aop0; simp only [hop, hty]
      rw [he _ l (by simp [hop, Op.operands]), he _ c (by simp [hop, Op.operands])]; exact h'
    · have h' : makeSliceK tt t (s.ev tt 0 l) (s.ev tt 0 c) s K := by
        split at h
        · exact (hm rfl).elim
        · exact h
      refine .of (by rw [hcl]; exact run_makeSlice h') fun s'' K' he h' => ?_
      unfold aop0; simp only [hop, hty]
      rw [he _ l (by simp [hop, Op.operands]), he _ c (by simp [hop, Op.operands])]; exact h'
  case slice t x lo hi mx =>
    refine .of (run_slice (fun e => vq_zero (by simpa [cls, hop] using e)) h) fun s'' K' he h' => ?_
    unfold aop0; simp only [hop, hty]
    have h1 : lo.map (s''.ev tt 0) = lo.map (s.ev tt 0) := by
      cases hv : lo with
      | none => rfl
      | some z => simp only [Option.map_some]; rw [he 0 z (by rw [hop, hv]; simp [Op.operands])]
    have h2 : hi.map (s''.ev tt 0) = hi.map (s.ev tt 0) := by
      cases hv : hi with
      | none => rfl
      | some z => simp only [Option.map_some]; rw [he 0 z (by rw [hop, hv]; simp [Op.operands])]
    have h3 : mx.map (s''.ev tt 0) = mx.map (s.ev tt 0) := by
      cases hv : mx with
      | none => rfl
      | some z => simp only [Option.map_some]; rw [he 0 z (by rw [hop, hv]; simp [Op.operands])]
    rw [he _ x (by simp [hop, Op.operands]), h1, h2, h3]; exact h'
  case fieldAddr t x f =>
    refine .of (run_fieldAddr h) fun s'' K' he h' => ?_
    unfold aop0; simp only [hop, hty]
    rw [he _ x (by simp [hop, Op.operands])]; exact h'
  case field t x f =>
    refine .of (run_field h) fun s'' K' he h' => ?_
    unfold aop0; simp only [hop, hty]
    rw [he _ x (by simp [hop, Op.operands])]; exact h'
  case indexAddr t x i =>
    refine .of (run_indexAddr (fun e => vq_zero (by simpa [cls, hop] using e)) h) fun s'' K' he h' => ?_
    unfold aop0; simp only [hop, hty]
    rw [he _ x (by simp [hop, Op.operands]), he _ i (by simp [hop, Op.operands])]; exact h'
  case index t x i =>
    refine .of (run_index h) fun s'' K' he h' => ?_
    unfold aop0; simp only [hop, hty]
    rw [he _ x (by simp [hop, Op.operands]), he _ i (by simp [hop, Op.operands])]; exact h'
  case lookup t m k ok =>
    refine .of (run_lookup (fun e => vq_zero (by simpa [cls, hop] using e)) h) fun s'' K' he h' => ?_
    unfold aop0; simp only [hop, hty]
    rw [he _ m (by simp [hop, Op.operands]), he _ k (by simp [hop, Op.operands])]; exact h'
  case mapUpdate t m k x =>
    have hcl : cls tt md o s = 2 := by simp [cls, hop]
    refine .of (by rw [hcl]; exact run_mapUpdate h) fun s'' K' he h' => ?_
    unfold aop0; simp only [hop, hty]
    rw [he _ m (by simp [hop, Op.operands]), he _ k (by simp [hop, Op.operands]), he _ x (by simp [hop, Op.operands])]; exact h'
  case extract x i =>
    refine .of (run_extract h) fun s'' K' he h' => ?_
    unfold aop0; simp only [hop, hty]
    rw [he _ x (by simp [hop, Op.operands])]; exact h'
  case call c =>
    have hargs : ∀ s'', EvEq tt o s s'' → c.args.toList.map (s''.ev tt 0) = c.args.toList.map (s.ev tt 0) := fun s'' he =>
      map_congr fun z hz => he 0 z (by rw [hop]; simp [Op.operands, Call.operands, Array.mem_toList_iff.1 hz])
    cases hce : c.callee with
    | builtin b =>
      rw [hce] at h
      dsimp only at h
      have hax : anyX (c.args.toList.map (s.ev tt 0)) = false := by
        cases md <;> first
          | (simp [isX] at hX; done)
          | simpa [isX, hop, hce] using hX
      have hcl : b = .append → cls tt md o s = (match c.args.toList.map (s.ev tt 0) with
        | .v (.list _ _ _) :: _ => 4
        | _ => 2) := fun e => by
        subst e
        have e0 : cls tt md o s = clsApp md (c.args.toList.map (s.ev tt 0)) := by simp only [cls, hop, hce, clsB]
        have e1 : clsApp md (c.args.toList.map (s.ev tt 0)) = (match c.args.toList.map (s.ev tt 0) with
          | .v (.list _ _ _) :: _ => 4
          | _ => 2) := by
          cases md <;> first
            | (simp [isX] at hX; done)
            | (simp only [clsApp, hax]; rfl)
        rw [e0, e1]
      refine .of (run_builtin (fun e => by
        have := hcl e
        split at this
        · exact absurd this h4
        · exact this) (fun e c' l tk r he => by
        have := hcl e
        rw [he] at this
        exact h4 this) (fun e => vqs_zero (by
        cases b <;> first
          | (simp [cls, hop, hce, clsB] at e <;> exact e)
          | (exfalso
             have := hcl rfl
             rw [e] at this
             split at this <;> cases this))) h) fun s'' K' he h' => ?_
      unfold aop0; simp only [hop, hty, hce]
      rw [hargs s'' he]; exact h'
    | value f =>
      rw [hce] at h
      dsimp only at h
      have hmd : md = .dflt ∨ md = .rd := by
        cases md <;> first
          | exact .inl rfl
          | exact .inr rfl
          | (simp [cls, hop, hce, clsV] at h3)
      rcases hmd with rfl | rfl
      rotate_left
      · have hcl : cls tt .rd o s = 1 := by simp [cls, hop, hce, clsV]
        split at h
        · rename_i g hf
          obtain ⟨x, hx, hall⟩ := hcd.2 _ _ _ _ h
          refine .of (KF := fun s' K' => call .rd g (c.args.toList.map (s.ev tt 0)) s' K') (.read (by rw [hcl]; decide) hx hall) fun s'' K' he h' => ?_
          unfold aop0; simp only [hop, hty, hce]
          rw [he _ f (by simp [hop, Op.operands, Call.operands, hce]), hf, hargs s'' he]; exact h'
        · rename_i g caps hf
          obtain ⟨x, hx, hall⟩ := hcd.2 _ _ _ _ h
          refine .of (KF := fun s' K' => call .rd g (c.args.toList.map (s.ev tt 0) ++ caps) s' K') (.read (by rw [hcl]; decide) hx hall) fun s'' K' he h' => ?_
          unfold aop0; simp only [hop, hty, hce]
          rw [he _ f (by simp [hop, Op.operands, Call.operands, hce]), hf, hargs s'' he]; exact h'
        · exact h.elim
      have hcl : cls tt .dflt o s = 0 := by simp [cls, hop, hce, clsV]
      split at h
      · rename_i g hf
        obtain ⟨x, hx, hall⟩ := hcd.1 _ _ _ _ h
        refine .of (KF := fun s' K' => call .dflt g (c.args.toList.map (s.ev tt 0)) s' K') (.quiet hx hall) fun s'' K' he h' => ?_
        unfold aop0; simp only [hop, hty, hce]
        rw [he _ f (by simp [hop, Op.operands, Call.operands, hce]), hf, hargs s'' he]; exact h'
      · rename_i g caps hf
        obtain ⟨x, hx, hall⟩ := hcd.1 _ _ _ _ h
        refine .of (KF := fun s' K' => call .dflt g (c.args.toList.map (s.ev tt 0) ++ caps) s' K') (.quiet hx hall) fun s'' K' he h' => ?_
        unfold aop0; simp only [hop, hty, hce]
        rw [he _ f (by simp [hop, Op.operands, Call.operands, hce]), hf, hargs s'' he]; exact h'
      · exact h.elim
    | invoke r m => rw [hce] at h; exact h.elim
  all_goals exact h.elim

theorem vq_ne4 (x : TV) : vq x ≠ 4 := by
  cases x <;> exact fun e => by cases e

theorem vqs_ne4 : ∀ l : List TV, vqs l ≠ 4
  | [] => fun e => by cases e
  | .v _ :: l => vqs_ne4 l
  | .ptr _ _ _ _ :: _ => fun e => by cases e
  | .arr _ _ _ _ :: _ => fun e => by cases e
  | .mapr _ :: _ => fun e => by cases e
  | .clo _ _ :: _ => fun e => by cases e
  | .iter _ :: _ => fun e => by cases e
  | .bsl _ _ :: _ => fun e => by cases e
  | .agg _ :: _ => fun e => by cases e
  | .tup _ :: _ => fun e => by cases e
  | .ref _ _ _ _ :: _ => fun e => by cases e
  | .sl _ _ :: _ => fun e => by cases e
  | .mp _ _ _ :: _ => fun e => by cases e

theorem cls_four (h : cls tt md o s = 4) : ∃ c cd l tk r, o.op = .call c ∧ c.callee = .builtin .append ∧ c.args.toList.map (s.ev tt 0) = .v (.list cd l tk) :: r := by
  unfold cls at h
  cases hop : o.op <;> rw [hop] at h <;> dsimp only at h
  case call c =>
    cases hce : c.callee with
    | builtin b =>
      rw [hce] at h
      cases b <;> dsimp only [clsB] at h <;> first
        | exact absurd h (vqs_ne4 _)
        | (cases h; done)
        | skip
      unfold clsApp at h
      split at h
      · cases h
      · split at h
        · cases h
        · split at h
          · rename_i cd l tk r he
            exact ⟨c, cd, l, tk, r, rfl, hce, he⟩
          · cases h
    | value f => rw [hce] at h; dsimp only [clsV] at h; split at h <;> cases h
    | invoke r m => rw [hce] at h; cases h
  all_goals first
    | cases h
    | exact absurd h (vq_ne4 _)
    | (unfold clsCv at h; split at h <;> first | cases h | exact absurd h (vq_ne4 _))
    | (unfold clsAs at h; split at h <;> cases h)
    | (unfold clsBS at h; split at h <;> cases h)
    | (unfold clsBi at h; split at h <;> cases h)

theorem aop0_runA (hX : isX tt md o s = false) (h4 : cls tt md o s = 4) (h : aop0 tt call md o s K) : RunEA0 tt call md o s K := by
  obtain ⟨c, cd, l0, tk, r, hop, hce, hargs0⟩ := cls_four h4
  unfold aop0 at h
  split at h
  case h_1 => exact h.elim
  rename_i hty
  rw [hop] at h hty
  dsimp only at h
  rw [hce] at h
  dsimp only at h
  have hargs : ∀ s'', EvEq tt o s s'' → c.args.toList.map (s''.ev tt 0) = c.args.toList.map (s.ev tt 0) := fun s'' he =>
    map_congr fun z hz => he 0 z (by rw [hop]; simp [Op.operands, Call.operands, Array.mem_toList_iff.1 hz])
  obtain ⟨z, hz1, hz2⟩ : ∃ z, z ∈ c.args.toList ∧ s.ev tt 0 z = .v (.list cd l0 tk) := by
    cases ha : c.args.toList with
    | nil => rw [ha] at hargs0; simp at hargs0
    | cons z rest => rw [ha] at hargs0; exact ⟨z, List.mem_cons_self .., (List.cons.inj hargs0).1⟩
  rw [hargs0] at h
  unfold builtinK at h
  split at h <;> first
    | (rename_i hb _; cases hb; done)
    | skip
  · rename_i x y hb hxy
    have hx := (List.cons.inj hxy).1
    subst hx
    split at h
    · rename_i t t2 hts
      obtain ⟨cd', l, h1, h2, h3⟩ := run_appendA h
      refine ⟨z, cd, l0, cd', l, tk, by rw [hop]; simp [Op.operands, Call.operands, Array.mem_toList_iff.1 hz1], hz2, h1, h2, fun s'' K' he ho h' => ?_⟩
      unfold aop0; simp only [hop, hty, hce]
      rw [hargs s'' he, hargs0, hts, (List.cons.inj hxy).2]
      exact h3 s'' K' ho h'
    · exact h.elim
  all_goals exact h.elim

end
end Go.Proofs.Ytaaedebknacheaa.AB

set_option linter.unusedVariables false
set_option linter.unusedSimpArgs false
namespace Go.Proofs.Ytaaedebknacheaa.AB
open Go

section
variable {KF : St → (TV → St → Prop) → Prop} {tt : TT} {call : CallP} {md : Md} {o : Oper} {s : St} {K : TV → St → Prop}

theorem vq_ne0 {x : TV} (h : isXv x = true) : vq x = 1 := by
  cases x <;> first
    | rfl
    | cases h

theorem setX_hp {s s'' : St} (h : s''.hp = s.hp) (X : XH) : setX s'' X = ⟨s''.tm, (setX s X).hp, s''.T⟩ := by
  simp only [setX, St.setO, h]

theorem run_name {KF : St → (TV → St → Prop) → Prop} {X : XH} {x : TV} (h : nameX s X x K) (hh : ∀ s'' K', s''.hp = s.hp → nameX s'' X x K' → KF s'' K') : Run KF s K 2 := by
  refine .eff (hp := (setX s X).hp) (by simp [setX, St.setO]) (h X rfl) (fun s'' K' hq h' => hh s'' K' hq ?_)
  intro X' e
  subst e
  rw [setX_hp hq]; exact h'

theorem run_xload {t : Nat} {p : TV} {c : Nat} (hc : c ≠ 0) (h : xload tt t p s K) : Run (xload tt t p) s K c := by
  unfold xload at h
  split at h
  case h_2 => exact h.elim
  rename_i h0 hX
  split at h
  case h_2 => exact h.elim
  rename_i hf
  obtain ⟨a, ha, h⟩ := h
  refine .read hc h fun s'' K' hq h' => ?_
  unfold xload; simp only [hq, hX, hf]; exact ⟨a, ha, h'⟩

theorem run_xstore {t : Nat} {p x : TV} (h : xstore tt t p x s K) : Run (xstore tt t p x) s K 2 := by
  unfold xstore at h
  split at h
  case h_2 => exact h.elim
  rename_i hX
  split at h
  case h_2 => exact h.elim
  rename_i hf
  obtain ⟨a, ha, h⟩ := h
  split at h
  case h_2 => exact h.elim
  rename_i a' hw
  refine run_name h fun s'' K' hq h' => ?_
  unfold xstore; simp only [hq, hX, hf]; refine ⟨a, ha, ?_⟩; simp only [hw]; exact h'

theorem run_xnilCheck {x : TV} {n : Nat} (h : xnilCheck x s K) : Run (xnilCheck x) s K n := by
  unfold xnilCheck at h
  split at h
  · obtain ⟨hh, rfl, h⟩ := refK_iff.1 h
    exact .quiet h fun _ _ h' => by unfold xnilCheck; exact h'
  · exact h.elim

theorem run_xbin {op : BinOp} {t : Nat} {x y : TV} {n : Nat} (h : xbin tt op t x y s K) : Run (xbin tt op t x y) s K n := by
  unfold xbin at h
  split at h
  case h_2 => exact h.elim
  rename_i b h1 h2 h3
  split at h
  · exact .quiet h fun _ _ h' => by unfold xbin; simp only [h1, h2, h3]; exact h'
  · exact .quiet h fun _ _ h' => by unfold xbin; simp only [h1, h2, h3]; exact h'
  · exact h.elim

theorem run_xfieldAddr {t : Nat} {x : TV} {f n : Nat} (h : xfieldAddr tt t x f s K) : Run (xfieldAddr tt t x f) s K n := by
  unfold xfieldAddr at h
  split at h
  case h_2 => exact h.elim
  rename_i hk
  split at h
  case h_2 => exact h.elim
  rename_i off ft hft
  split at h
  case h_2 => exact h.elim
  rename_i hb
  exact .quiet h fun _ _ h' => by unfold xfieldAddr; simp only [hk, hft, hb]; exact h'

theorem run_xindexAddr {t : Nat} {x ix : TV} {n : Nat} (h : xindexAddr tt t x ix s K) : Run (xindexAddr tt t x ix) s K n := by
  unfold xindexAddr at h
  split at h
  · split at h
    case h_2 => exact h.elim
    rename_i e he
    split at h
    case h_2 => exact h.elim
    rename_i hf
    obtain ⟨u, hu, h0, h1, h⟩ := h
    exact .quiet h fun _ _ h' => by unfold xindexAddr; simp only [he, hf]; exact ⟨u, hu, h0, h1, h'⟩
  · split at h
    case h_2 => exact h.elim
    rename_i q1 q2 q3
    split at h
    case h_2 => exact h.elim
    rename_i hb
    obtain ⟨h0, h1, h⟩ := h
    exact .quiet h fun _ _ h' => by unfold xindexAddr; simp only [q1, q2, q3, hb]; exact ⟨h0, h1, h'⟩
  · exact h.elim

theorem run_boundsX {len cap : Nat} {lo hi : Option TV} {k0 : Nat → Nat → Prop} (h : boundsX len cap lo hi k0) : ∃ a b, k0 a b ∧ ∀ k1 : Nat → Nat → Prop, k1 a b → boundsX len cap lo hi k1 := by
  unfold boundsX at h
  split at h
  · exact ⟨_, _, h, fun _ h' => by unfold boundsX; exact h'⟩
  · exact ⟨_, _, h.2.2, fun _ h' => by unfold boundsX; exact ⟨h.1, h.2.1, h'⟩⟩
  · exact ⟨_, _, h.2.2, fun _ h' => by unfold boundsX; exact ⟨h.1, h.2.1, h'⟩⟩
  · exact ⟨_, _, h.2.2.2, fun _ h' => by unfold boundsX; exact ⟨h.1, h.2.1, h.2.2.1, h'⟩⟩
  · exact h.elim

theorem run_xslice {t : Nat} {x : TV} {lo hi mx : Option TV} {n : Nat} (h : xslice tt t x lo hi mx s K) : Run (xslice tt t x lo hi mx) s K n := by
  unfold xslice at h
  split at h
  case h_2 => exact h.elim
  rename_i e he
  split at h
  case h_2 => exact h.elim
  rename_i hf
  split at h
  · obtain ⟨a, b, h1, h2⟩ := run_boundsX h
    exact .quiet h1 fun _ _ h' => by unfold xslice; simp only [he, hf]; exact h2 _ h'
  · split at h
    case h_2 => exact h.elim
    obtain ⟨h0, h3, h⟩ := h
    obtain ⟨a, b, h1, h2⟩ := run_boundsX h
    exact .quiet h1 fun _ _ h' => by unfold xslice; simp only [he, hf]; exact ⟨h0, h3, h2 _ h'⟩
  · exact h.elim

theorem run_xlookup {t : Nat} {m k : TV} {ok : Bool} {n : Nat} (hn : n ≠ 0) (h : xlookup tt t m k ok s K) : Run (xlookup tt t m k ok) s K n := by
  unfold xlookup at h
  split at h
  case h_2 => exact h.elim
  rename_i kc vc x X hX
  split at h
  case h_2 => exact h.elim
  rename_i e a he ha
  split at h
  case h_2 => exact h.elim
  rename_i z hf hz
  obtain ⟨es, hes, h1, h2⟩ := h
  cases hm : mfind (kc.keq a) es with
  | some v =>
    refine .read hn (h1 v hm) fun s'' K' hq h' => ?_
    unfold xlookup; simp only [hq, hX, he, ha, hf, hz]
    refine ⟨es, hes, ?_, ?_⟩
    · intro u hu; rw [hm] at hu; cases hu; exact h'
    · intro e; rw [hm] at e; cases e
  | none =>
    refine .read hn (h2 hm) fun s'' K' hq h' => ?_
    unfold xlookup; simp only [hq, hX, he, ha, hf, hz]
    refine ⟨es, hes, ?_, ?_⟩
    · intro u hu; rw [hm] at hu; cases hu
    · intro e; exact h'

theorem run_xmapUpdate {t : Nat} {m k v : TV} (h : xmapUpdate tt t m k v s K) : Run (xmapUpdate tt t m k v) s K 2 := by
  unfold xmapUpdate at h
  split at h
  case h_2 => exact h.elim
  rename_i kc vc x X hX
  split at h
  case h_2 => exact h.elim
  rename_i e a b he ha hb
  split at h
  case h_2 => exact h.elim
  rename_i hf
  obtain ⟨hh, es, h1, h2, h⟩ := h
  refine run_name h fun s'' K' hq h' => ?_
  unfold xmapUpdate; simp only [hq, hX, he, ha, hb, hf]; exact ⟨hh, es, h1, h2, h'⟩

theorem run_xdelete {t : Nat} {m k : TV} (h : xdelete tt t m k s K) : Run (xdelete tt t m k) s K 2 := by
  unfold xdelete at h
  split at h
  case h_2 => exact h.elim
  rename_i kc vc x X hX
  split at h
  case h_2 => exact h.elim
  rename_i e a he ha
  obtain ⟨hh, es, h1, h2, h⟩ := h
  refine run_name h fun s'' K' hq h' => ?_
  unfold xdelete; simp only [hq, hX, he, ha]; exact ⟨hh, es, h1, h2, h'⟩

theorem run_xconvert {src dst : Nat} {x : TV} {n : Nat} (hn : n ≠ 0) (h : xconvert tt src dst x s K) : Run (xconvert tt src dst x) s K n := by
  unfold xconvert at h
  split at h
  case h_2 => exact h.elim
  rename_i hX
  split at h
  case h_2 => exact h.elim
  rename_i h1 h2
  split at h
  case h_2 => exact h.elim
  rename_i h3 h4
  obtain ⟨l, hl, h⟩ := h
  refine .read hn h fun s'' K' hq h' => ?_
  unfold xconvert; simp only [hq, hX, h1, h2, h3, h4]; exact ⟨l, hl, h'⟩

theorem run_xalloc {c : Xd} {e : Nat} (h : xalloc tt c e s K) : Run (xalloc tt c e) s K 2 := by
  unfold xalloc at h
  split at h
  case h_2 => exact h.elim
  rename_i h1 h2
  refine run_name h fun s'' K' hq h' => ?_
  unfold xalloc; simp only [hq, h1, h2]; exact h'

theorem run_xbox {c : Xd} {e : Nat} {x : TV} (h : xbox tt c e x s K) : Run (xbox tt c e x) s K 2 := by
  unfold xbox at h
  split at h
  case h_2 => exact h.elim
  rename_i h1 h2 h3
  refine run_name h fun s'' K' hq h' => ?_
  unfold xbox; simp only [hq, h1, h2, h3]; exact h'

theorem run_xbuild {t : Nat} {parts : List (Nat × TV)} {n : Nat} (h : xbuild tt t parts s K) : Run (xbuild tt t parts) s K n := by
  unfold xbuild at h
  split at h
  case h_2 => exact h.elim
  rename_i h1
  split at h
  case h_2 => exact h.elim
  rename_i h2
  exact .quiet h fun _ _ h' => by unfold xbuild; simp only [h1, h2]; exact h'

theorem run_xmake {c : Xd} {t : Nat} {l m : TV} (h : xmake tt c t l m s K) : Run (xmake tt c t l m) s K 2 := by
  unfold xmake at h
  split at h
  case h_2 => exact h.elim
  rename_i h1 h2
  split at h
  case h_2 => exact h.elim
  rename_i h3
  obtain ⟨q0, q1, q2, q3, h⟩ := h
  refine run_name h fun s'' K' hq h' => ?_
  unfold xmake; simp only [hq, h1, h2, h3]; exact ⟨q0, q1, q2, q3, h'⟩

theorem run_xmakeMap {kc : Cd} {vc : Xd} {t : Nat} (h : xmakeMap tt kc vc t s K) : Run (xmakeMap tt kc vc t) s K 2 := by
  unfold xmakeMap at h
  split at h
  case h_2 => exact h.elim
  rename_i h1 h2
  split at h
  case h_2 => exact h.elim
  rename_i h3
  refine run_name h fun s'' K' hq h' => ?_
  unfold xmakeMap; simp only [hq, h1, h2, h3]; exact h'

theorem run_xlit {c : Xd} {t len : Nat} {parts : List (Nat × TV)} (h : xlit tt c t len parts s K) : Run (xlit tt c t len parts) s K 2 := by
  unfold xlit at h
  split at h
  case h_2 => exact h.elim
  rename_i h1 h2
  split at h
  case h_2 => exact h.elim
  rename_i h3 h4
  refine run_name h fun s'' K' hq h' => ?_
  unfold xlit; simp only [hq, h1, h2, h3, h4]; exact h'

theorem run_xnil {c : Xd} {x : TV} {n : Nat} (h : xnil c x s K) : Run (xnil c x) s K n := by
  unfold xnil at h
  split at h <;> first
    | exact h.elim
    | exact .quiet h fun _ _ h' => by unfold xnil; exact h'

theorem run_xlen {t : Nat} {x : TV} {n : Nat} (hn : n ≠ 0) (h : xlen tt t x s K) : Run (xlen tt t x) s K n := by
  unfold xlen at h
  split at h
  · rename_i hk
    exact .quiet h fun _ _ h' => by unfold xlen; simp only [hk]; exact h'
  · rename_i hk hX
    obtain ⟨es, he, h⟩ := h
    refine .read hn h fun s'' K' hq h' => ?_
    unfold xlen; simp only [hk, hq, hX]; exact ⟨es, he, h'⟩
  · exact h.elim

theorem run_xcap {t : Nat} {x : TV} {n : Nat} (h : xcap tt t x s K) : Run (xcap tt t x) s K n := by
  unfold xcap at h
  split at h
  · rename_i hk
    exact .quiet h fun _ _ h' => by unfold xcap; simp only [hk]; exact h'
  · exact h.elim

theorem run_xcopy {t : Nat} {x y : TV} (h : xcopy tt t x y s K) : Run (xcopy tt t x y) s K 2 := by
  unfold xcopy at h
  split at h
  case h_2 => exact h.elim
  rename_i h1 h2
  split at h
  case h_2 => exact h.elim
  rename_i h3
  obtain ⟨d, l, q1, q2, h⟩ := h
  refine run_name h fun s'' K' hq h' => ?_
  unfold xcopy; simp only [hq, h1, h2, h3]; exact ⟨d, l, q1, q2, h'⟩

theorem run_xclear {t : Nat} {x : TV} (h : xclear tt t x s K) : Run (xclear tt t x) s K 2 := by
  unfold xclear at h
  split at h
  case h_2 => exact h.elim
  rename_i h1 h2
  split at h
  case h_2 => exact h.elim
  rename_i h3
  obtain ⟨d, q1, h⟩ := h
  refine run_name h fun s'' K' hq h' => ?_
  unfold xclear; simp only [hq, h1, h2, h3]; exact ⟨d, q1, h'⟩

theorem evx_eq {s'' : St} (he : EvEq tt o s s'') {ty : Nat} {z : Operand} (hz : z ∈ o.op.operands) : s''.evx tt ty z = s.evx tt ty z := by
  have := he ty z hz
  unfold St.evx
  split
  · rfl
  · exact this

theorem isX_congr {s'' : St} (he : EvEq tt o s s'') : isX tt md o s'' = isX tt md o s := by
  have call : ∀ c : Call, o.op = .call c → c.args.toList.map (s''.ev tt 0) = c.args.toList.map (s.ev tt 0) := fun c hop =>
    map_congr fun z hz => he 0 z (by rw [hop]; simp [Op.operands, Call.operands, Array.mem_toList_iff.1 hz])
  have main : ∀ m : Md, (∀ c, m ≠ .x c) → isX tt m o s'' = isX tt m o s := by
    intro m hm
    cases hop : o.op
    case binOp op t x y yt =>
      have h1 := he 0 x (by simp [hop, Op.operands])
      have h2 := he 0 y (by simp [hop, Op.operands])
      cases m <;> first
        | exact absurd rfl (hm _)
        | simp only [isX, hop, h1, h2]
    case call c =>
      have h1 := call c hop
      cases m <;> first
        | exact absurd rfl (hm _)
        | simp only [isX, hop, h1]
    case load t a =>
      have h1 := he 0 a (by simp [hop, Op.operands])
      cases m <;> first
        | exact absurd rfl (hm _)
        | simp only [isX, hop, h1]
    case store t a x =>
      have h1 := he 0 a (by simp [hop, Op.operands])
      cases m <;> first
        | exact absurd rfl (hm _)
        | simp only [isX, hop, h1]
    case fieldAddr t a x =>
      have h1 := he 0 a (by simp [hop, Op.operands])
      cases m <;> first
        | exact absurd rfl (hm _)
        | simp only [isX, hop, h1]
    case nilCheck a =>
      have h1 := he 0 a (by simp [hop, Op.operands])
      cases m <;> first
        | exact absurd rfl (hm _)
        | simp only [isX, hop, h1]
    case indexAddr t a x =>
      have h1 := he 0 a (by simp [hop, Op.operands])
      cases m <;> first
        | exact absurd rfl (hm _)
        | simp only [isX, hop, h1]
    case slice t a lo hi mx =>
      have h1 := he 0 a (by simp [hop, Op.operands])
      cases m <;> first
        | exact absurd rfl (hm _)
        | simp only [isX, hop, h1]
    case lookup t a k ok =>
      have h1 := he 0 a (by simp [hop, Op.operands])
      cases m <;> first
        | exact absurd rfl (hm _)
        | simp only [isX, hop, h1]
    case mapUpdate t a k x =>
      have h1 := he 0 a (by simp [hop, Op.operands])
      cases m <;> first
        | exact absurd rfl (hm _)
        | simp only [isX, hop, h1]
    case convert t d a =>
      have h1 := he 0 a (by simp [hop, Op.operands])
      cases m <;> first
        | exact absurd rfl (hm _)
        | simp only [isX, hop, h1]
    all_goals (cases m <;> first
      | exact absurd rfl (hm _)
      | simp only [isX, hop])
  cases md with
  | x c => rfl
  | _ => exact main _ (by intro c e; cases e)

theorem RunE.ofX {KF : St → (TV → St → Prop) → Prop} (hX : isX tt md o s = true) (hty : ((opTys o.op).all fun t => (tt.at t).ok) = true) (h : Run KF s K (cls tt md o s))
    (hh : ∀ s'' K', EvEq tt o s s'' → KF s'' K' → xaop tt md o s'' K') : RunE tt call md o s K := by
  obtain ⟨x, hp, h1, h2, h3, h4⟩ := h
  refine ⟨x, hp, h1, h2, h3, fun s'' K' he h => ?_⟩
  unfold aop
  rw [isX_congr he, hX]
  simp only [hty]
  exact hh s'' K' he (h4 s'' K' h)

theorem xaop_run (hX : isX tt md o s = true) (hty : ((opTys o.op).all fun t => (tt.at t).ok) = true) (h3 : cls tt md o s ≠ 3) (h : xaop tt md o s K) : RunE tt call md o s K := by
  unfold xaop at h
  cases hop : o.op <;> rw [hop] at h <;> dsimp only at h
  case assign x =>
    split at h
    case h_2 => exact h.elim
    rename_i c
    refine .ofX hX hty (run_xnil h) fun s'' K' he h' => ?_
    unfold xaop; simp only [hop]
    rw [evx_eq he (by simp [hop, Op.operands])]; exact h'
  case alloc e =>
    split at h
    case h_2 => exact h.elim
    rename_i c0
    refine .ofX hX hty (by have : cls tt (.x c0) o s = 2 := by simp [cls, hop]
                           rw [this]; exact run_xalloc h) fun s'' K' he h' => ?_
    unfold xaop; simp only [hop]; exact h'
  case box e x =>
    split at h
    case h_2 => exact h.elim
    rename_i c0
    refine .ofX hX hty (by have : cls tt (.x c0) o s = 2 := by simp [cls, hop]
                           rw [this]; exact run_xbox h) fun s'' K' he h' => ?_
    unfold xaop; simp only [hop]
    rw [evx_eq he (by simp [hop, Op.operands])]; exact h'
  case build t parts =>
    refine .ofX hX hty (run_xbuild h) fun s'' K' he h' => ?_
    unfold xaop; simp only [hop]
    rw [parts_congr (fun p hp => evx_eq (tt := tt) (ty := 0) he (by rw [hop]; simp [Op.operands]; exact ⟨p.1, Array.mem_toList_iff.1 hp⟩))]; exact h'
  case buildSlice t len parts =>
    split at h
    case h_2 => exact h.elim
    rename_i c0
    refine .ofX hX hty (by have : cls tt (.x c0) o s = 2 := by simp [cls, hop, clsBS]
                           rw [this]; exact run_xlit h) fun s'' K' he h' => ?_
    unfold xaop; simp only [hop]
    rw [parts_congr (fun p hp => evx_eq (tt := tt) (ty := 0) he (by rw [hop]; simp [Op.operands]; exact ⟨p.1, Array.mem_toList_iff.1 hp⟩))]; exact h'
  case load t x =>
    have hv : isXv (s.ev tt 0 x) = true := by
      unfold xload at h
      split at h
      · rename_i e _; rw [e]; rfl
      · exact h.elim
    refine .ofX hX hty (run_xload (by simp [cls, hop, vq_ne0 hv]) h) fun s'' K' he h' => ?_
    unfold xaop; simp only [hop]
    rw [he _ x (by simp [hop, Op.operands])]; exact h'
  case store t x y =>
    refine .ofX hX hty (by have : cls tt md o s = 2 := by simp [cls, hop]
                           rw [this]; exact run_xstore h) fun s'' K' he h' => ?_
    unfold xaop; simp only [hop]
    rw [he _ x (by simp [hop, Op.operands]), evx_eq he (by simp [hop, Op.operands])]; exact h'
  case nilCheck x =>
    refine .ofX hX hty (run_xnilCheck h) fun s'' K' he h' => ?_
    unfold xaop; simp only [hop]
    rw [he _ x (by simp [hop, Op.operands])]; exact h'
  case binOp op t x y yt =>
    split at h
    case h_2 => exact h.elim
    rename_i h1 h2
    refine .ofX hX hty (run_xbin h) fun s'' K' he h' => ?_
    unfold xaop; simp only [hop]
    rw [he _ x (by simp [hop, Op.operands]), evx_eq he (by simp [hop, Op.operands]), h1, h2]; exact h'
  case convert src dst x =>
    have hn : cls tt md o s ≠ 0 := by
      have hv : isXv (s.ev tt src x) = true := by
        unfold xconvert at h
        split at h
        · rename_i e _; rw [e]; rfl
        · exact h.elim
      have e0 : vq (s.ev tt 0 x) = 1 := by
        cases x with
        | const c =>
          exfalso
          have : ∃ q, s.ev tt src (.const c) = .v q := ⟨_, rfl⟩
          obtain ⟨q, hq⟩ := this
          rw [hq] at hv; cases hv
        | tmp t => exact vq_ne0 hv
        | func f => cases hv
        | global g => cases hv
      simp only [cls, hop, clsCv]
      split
      · decide
      · rw [e0]; decide
    refine .ofX hX hty (run_xconvert hn h) fun s'' K' he h' => ?_
    unfold xaop; simp only [hop]
    rw [he _ x (by simp [hop, Op.operands])]; exact h'
  case makeMap t r =>
    cases r with
    | some r => exact h.elim
    | none =>
      dsimp only at h
      split at h
      case h_2 => exact h.elim
      rename_i kc vc
      refine .ofX hX hty (by have : cls tt (.x (.mp kc vc)) o s = 2 := by simp [cls, hop]
                             rw [this]; exact run_xmakeMap h) fun s'' K' he h' => ?_
      unfold xaop; simp only [hop]; exact h'
  case makeSlice t l c =>
    split at h
    case h_2 => exact h.elim
    rename_i c0
    refine .ofX hX hty (by have : cls tt (.x c0) o s = 2 := by simp [cls, hop]
                           rw [this]; exact run_xmake h) fun s'' K' he h' => ?_
    unfold xaop; simp only [hop]
    rw [he _ l (by simp [hop, Op.operands]), he _ c (by simp [hop, Op.operands])]; exact h'
  case slice t x lo hi mx =>
    have opt : ∀ (s'' : St) (z : Option Operand), EvEq tt o s s'' → (∀ y, z = some y → y ∈ o.op.operands) → z.map (s''.ev tt 0) = z.map (s.ev tt 0) := by
      intro s'' z he hz
      cases z with
      | none => rfl
      | some y => simp only [Option.map_some, he 0 y (hz y rfl)]
    refine .ofX hX hty (run_xslice h) fun s'' K' he h' => ?_
    unfold xaop; simp only [hop]
    rw [he _ x (by simp [hop, Op.operands]), opt s'' lo he (by intro y hy; subst hy; simp [hop, Op.operands]), opt s'' hi he (by intro y hy; subst hy; simp [hop, Op.operands]),
      opt s'' mx he (by intro y hy; subst hy; simp [hop, Op.operands])]; exact h'
  case fieldAddr t x f =>
    refine .ofX hX hty (run_xfieldAddr h) fun s'' K' he h' => ?_
    unfold xaop; simp only [hop]
    rw [he _ x (by simp [hop, Op.operands])]; exact h'
  case indexAddr t x i =>
    refine .ofX hX hty (run_xindexAddr h) fun s'' K' he h' => ?_
    unfold xaop; simp only [hop]
    rw [he _ x (by simp [hop, Op.operands]), he _ i (by simp [hop, Op.operands])]; exact h'
  case lookup t m k ok =>
    have hn : cls tt md o s ≠ 0 := by
      have hv : isXv (s.ev tt 0 m) = true := by
        unfold xlookup at h
        split at h
        · rename_i e _; rw [e]; rfl
        · exact h.elim
      have e0 : vq (s.ev tt t m) = 1 := by
        cases m with
        | const c =>
          exfalso
          obtain ⟨q, hq⟩ : ∃ q, s.ev tt 0 (.const c) = .v q := ⟨_, rfl⟩
          rw [hq] at hv; cases hv
        | tmp t => exact vq_ne0 hv
        | func f => cases hv
        | global g => cases hv
      simp only [cls, hop, e0]; decide
    refine .ofX hX hty (run_xlookup hn h) fun s'' K' he h' => ?_
    unfold xaop; simp only [hop]
    rw [he _ m (by simp [hop, Op.operands]), he _ k (by simp [hop, Op.operands])]; exact h'
  case mapUpdate t m k x =>
    refine .ofX hX hty (by have : cls tt md o s = 2 := by simp [cls, hop]
                           rw [this]; exact run_xmapUpdate h) fun s'' K' he h' => ?_
    unfold xaop; simp only [hop]
    rw [he _ m (by simp [hop, Op.operands]), he _ k (by simp [hop, Op.operands]), evx_eq he (by simp [hop, Op.operands])]; exact h'
  case call c =>
    split at h
    case h_2 => exact h.elim
    rename_i b hce
    have hargs : ∀ s'', EvEq tt o s s'' → c.args.toList.map (s''.evx tt 0) = c.args.toList.map (s.evx tt 0) := fun s'' he =>
      map_congr fun z hz => evx_eq he (by rw [hop]; simp [Op.operands, Call.operands, Array.mem_toList_iff.1 hz])
    have fin : ∀ {KF : St → (TV → St → Prop) → Prop}, Run KF s K (cls tt md o s) → (∀ s'' K', KF s'' K' → xbuiltin tt md b (c.args.toList.map (s.evx tt 0)) c.argTypes.toList s'' K') → RunE tt call md o s K := by
      intro KF h1 h2
      refine .ofX hX hty h1 fun s'' K' he h' => ?_
      unfold xaop; simp only [hop, hce]
      rw [hargs s'' he]; exact h2 s'' K' h'
    -- a value of the heap among the operands
    have hone : ∀ x r, c.args.toList.map (s.evx tt 0) = x :: r → isXv x = true → vqs (c.args.toList.map (s.ev tt 0)) ≠ 0 := by
      intro x r hx hv
      cases ha : c.args.toList with
      | nil => rw [ha] at hx; cases hx
      | cons z rest =>
        rw [ha] at hx
        have hz : s.evx tt 0 z = x := (List.cons.inj hx).1
        have hz' : s.ev tt 0 z = x := by
          unfold St.evx at hz
          split at hz
          · subst hz; cases hv
          · exact hz
        simp only [List.map_cons, hz']
        cases x <;> first
          | (intro e; exact absurd (show (1 : Nat) = 0 from e) (by decide))
          | cases hv
    unfold xbuiltin at h
    split at h
    · rename_i x t h1 h2
      have hv : isXv x = true := by
        unfold xlen at h
        split at h <;> first | rfl | exact h.elim
      exact fin (run_xlen (by simp only [cls, hop, hce, clsB]; exact hone x _ h1 hv) h) fun s'' K' h' => by unfold xbuiltin; simp only [h1, h2]; exact h'
    · rename_i x t h1 h2
      exact fin (run_xcap h) fun s'' K' h' => by unfold xbuiltin; simp only [h1, h2]; exact h'
    · rename_i x y t t2 h1 h2
      split at h
      · exact absurd (by simp [cls, hop, hce, clsB, clsApp]) h3
      · rename_i hmd
        split at h
        · rename_i c0 l tk
          exfalso
          refine h3 ?_
          have hax : anyX (c.args.toList.map (s.ev tt 0)) = true := by
            cases md <;> first
              | exact (hmd _ rfl).elim
              | (simp only [isX, hop, hce] at hX; exact hX)
          simp only [cls, hop, hce, clsB]
          unfold clsApp
          split
          · rfl
          · rw [hax]
        · exact h.elim
    · rename_i x y t t2 h1 h2
      exact fin (by have : cls tt md o s = 2 := by simp [cls, hop, hce, clsB]
                    rw [this]; exact run_xcopy h) fun s'' K' h' => by unfold xbuiltin; simp only [h1, h2]; exact h'
    · rename_i x t h1 h2
      exact fin (by have : cls tt md o s = 2 := by simp [cls, hop, hce, clsB]
                    rw [this]; exact run_xclear h) fun s'' K' h' => by unfold xbuiltin; simp only [h1, h2]; exact h'
    · rename_i x y t t2 h1 h2
      exact fin (by have : cls tt md o s = 2 := by simp [cls, hop, hce, clsB]
                    rw [this]; exact run_xdelete h) fun s'' K' h' => by unfold xbuiltin; simp only [h1, h2]; exact h'
    · exact h.elim
  all_goals exact h.elim

theorem aop_run (hcd : CallDet call) (h3 : cls tt md o s ≠ 3) (h4 : cls tt md o s ≠ 4) (h : aop tt call md o s K) : RunE tt call md o s K := by
  unfold aop at h
  split at h
  · rename_i hX
    split at h
    · rename_i hty
      exact xaop_run hX hty h3 h
    · exact h.elim
  · rename_i hX
    obtain ⟨x, hp, h1, h2, h3, h4⟩ := aop0_run hcd hX h3 h4 h
    refine ⟨x, hp, h1, h2, h3, fun s'' K' he h => ?_⟩
    unfold aop
    rw [isX_congr he, hX]
    exact h4 s'' K' he h

theorem aop_runA (h4 : cls tt md o s = 4) (h : aop tt call md o s K) : RunEA tt call md o s K := by
  have hX : isX tt md o s = false := by
    cases hX : isX tt md o s with
    | false => rfl
    | true =>
      exfalso
      obtain ⟨c, cd, l0, tk, r, hop, hce, hargs0⟩ := cls_four h4
      simp only [cls, hop, hce, clsB] at h4
      unfold clsApp at h4
      split at h4
      · cases h4
      · split at h4
        · cases h4
        · rename_i hmd _ hax
          cases md <;> first
            | exact hmd _ rfl
            | (simp only [isX, hop, hce] at hX; rw [hax] at hX; cases hX)
  unfold aop at h
  rw [hX] at h
  dsimp only at h
  obtain ⟨z, cd, l0, cd', l, tk, h1, h2, h3, h4, h5⟩ := aop0_runA hX h4 h
  refine ⟨z, cd, l0, cd', l, tk, h1, h2, h3, h4, fun s'' K' he ho h' => ?_⟩
  unfold aop
  rw [isX_congr he, hX]
  exact h5 s'' K' he ho h'

end
end Go.Proofs.Ytaaedebknacheaa.AB

set_option linter.unusedVariables false
set_option linter.unusedSimpArgs false
namespace Go.Proofs.Ytaaedebknacheaa.AB
open Go

/-! a heap that only grew -/

def XLe (X X' : XH) : Prop := X.n ≤ X'.n ∧ ∀ h, h < X.n → X'.f h = X.f h

theorem XLe.refl (X : XH) : XLe X X := ⟨Nat.le_refl _, fun _ _ => rfl⟩
theorem XLe.trans {X Y Z : XH} (h : XLe X Y) (k : XLe Y Z) : XLe X Z :=
  ⟨Nat.le_trans h.1 k.1, fun i hi => (k.2 i (Nat.lt_of_lt_of_le hi h.1)).trans (h.2 i hi)⟩

theorem XLe.at {X X' : XH} (h : XLe X X') {k : Nat} {o : XO} (ho : X.at k = some o) : X'.at k = some o := by
  obtain ⟨h1, h2⟩ := at_get ho
  exact at_of ((h.2 k h2).trans h1) (Nat.lt_of_lt_of_le h2 h.1)

theorem XLe.arr {X X' : XH} (h : XLe X X') {c : Xd} {k : Nat} {l : List c.T} (ho : X.arr c k = some l) : X'.arr c k = some l := arr_at.2 (h.at (arr_at.1 ho))
theorem XLe.mp {X X' : XH} (h : XLe X X') {kc : Cd} {vc : Xd} {k : Nat} {l} (ho : X.mp kc vc k = some l) : X'.mp kc vc k = some l := mp_at.2 (h.at (mp_at.1 ho))

theorem XLe.el {X X' : XH} (h : XLe X X') {c : Xd} {k e : Nat} {a : c.T} (ho : X.el c k e = some a) : X'.el c k e = some a := by
  unfold XH.el at ho ⊢
  cases hl : X.arr c k with
  | none => rw [hl] at ho; cases ho
  | some l => rw [hl] at ho; rw [h.arr hl]; exact ho

theorem XLe.view {X X' : XH} (h : XLe X X') {c : Xd} {x : Option SlH} {l : List c.T} (ho : X.view c x = some l) : X'.view c x = some l := by
  unfold XH.view at ho ⊢
  cases x with
  | none => exact ho
  | some s =>
    dsimp only at ho ⊢
    cases hl : X.arr c s.h with
    | none => rw [hl] at ho; cases ho
    | some l => rw [hl] at ho; rw [h.arr hl]; exact ho

theorem XLe.vmp {X X' : XH} (h : XLe X X') {kc : Cd} {vc : Xd} {x : Option Nat} {l} (ho : X.vmp kc vc x = some l) : X'.vmp kc vc x = some l := by
  unfold XH.vmp at ho ⊢
  cases x with
  | none => exact ho
  | some k => exact h.mp ho

theorem XLe.add (X : XH) (o : XO) : XLe X (X.add o) := ⟨Nat.le_succ _, fun h hh => by simp only [XH.add]; rw [if_neg (by omega)]⟩

def Grown (hp hp' : Hp) : Prop := hp' = hp ∨ ∃ X X', hpX hp = some X ∧ hp' = hp.set 0 (some (.heap X')) ∧ XLe X X'

theorem hpX_set {hp : Hp} {X X' : XH} (h : hpX hp = some X) : hpX (hp.set 0 (some (.heap X'))) = some X' := by
  cases hp with
  | nil => cases h
  | cons a r => rfl

theorem Grown.refl (hp : Hp) : Grown hp hp := .inl rfl
theorem Grown.trans {a b c : Hp} (h : Grown a b) (k : Grown b c) : Grown a c := by
  rcases h with rfl | ⟨X, X', h1, rfl, h2⟩
  · exact k
  · rcases k with rfl | ⟨Y, Y', k1, rfl, k2⟩
    · exact .inr ⟨X, X', h1, rfl, h2⟩
    · rw [hpX_set h1] at k1
      cases k1
      exact .inr ⟨X, Y', h1, by rw [List.set_set], h2.trans k2⟩

theorem Grown.hpX {a b : Hp} (h : Grown a b) {X : XH} (hX : AB.hpX a = some X) : ∃ X', AB.hpX b = some X' ∧ XLe X X' := by
  rcases h with rfl | ⟨Y, Y', h1, rfl, h2⟩
  · exact ⟨X, hX, .refl _⟩
  · rw [hX] at h1; cases h1
    exact ⟨Y', hpX_set hX, h2⟩

theorem Grown.len {a b : Hp} (h : Grown a b) : b.length = a.length := by
  rcases h with rfl | ⟨Y, Y', h1, rfl, h2⟩
  · rfl
  · simp

/-! what looks at the heap alone -/

def RunM (KF : St → (TV → St → Prop) → Prop) (s : St) (K : TV → St → Prop) : Prop :=
  ∃ x, K x s ∧ ∀ s'' K', Grown s.hp s''.hp → K' x s'' → KF s'' K'

/-- what adds to the heap, no more -/
def RunG (KF : St → (TV → St → Prop) → Prop) (s : St) (K : TV → St → Prop) : Prop :=
  ∃ x hp, K x ⟨s.tm, hp, s.T⟩ ∧ Grown s.hp hp ∧ ∀ s'' K', s''.hp = s.hp → K' x ⟨s''.tm, hp, s''.T⟩ → KF s'' K'

section
variable {KF : St → (TV → St → Prop) → Prop} {tt : TT} {call : CallP} {md : Md} {o : Oper} {s : St} {K : TV → St → Prop}

theorem Run.m (h : Run KF s K 0) : RunM KF s K := by
  obtain ⟨x, hp, h1, h2, _, h4⟩ := h
  have : hp = s.hp := h2 (by decide)
  subst this
  exact ⟨x, h1, fun s'' K' _ h' => h4 s'' K' (.inl ⟨rfl, h'⟩)⟩

theorem runm_xload {t : Nat} {p : TV} (h : xload tt t p s K) : RunM (xload tt t p) s K := by
  unfold xload at h
  split at h
  case h_2 => exact h.elim
  rename_i h0 hX
  split at h
  case h_2 => exact h.elim
  rename_i hf
  obtain ⟨a, ha, h⟩ := h
  refine ⟨_, h, fun s'' K' hq h' => ?_⟩
  obtain ⟨X', hX', hle⟩ := hq.hpX hX
  unfold xload; simp only [hX', hf]; exact ⟨a, hle.el ha, h'⟩

theorem runm_xlookup {t : Nat} {m k : TV} {ok : Bool} (h : xlookup tt t m k ok s K) : RunM (xlookup tt t m k ok) s K := by
  unfold xlookup at h
  split at h
  case h_2 => exact h.elim
  rename_i kc vc x X hX
  split at h
  case h_2 => exact h.elim
  rename_i e a he ha
  split at h
  case h_2 => exact h.elim
  rename_i z hf hz
  obtain ⟨es, hes, h1, h2⟩ := h
  cases hm : mfind (kc.keq a) es with
  | some v =>
    refine ⟨_, h1 v hm, fun s'' K' hq h' => ?_⟩
    obtain ⟨X', hX', hle⟩ := hq.hpX hX
    unfold xlookup; simp only [hX', he, ha, hf, hz]
    refine ⟨es, hle.vmp hes, ?_, ?_⟩
    · intro u hu; rw [hm] at hu; cases hu; exact h'
    · intro e; rw [hm] at e; cases e
  | none =>
    refine ⟨_, h2 hm, fun s'' K' hq h' => ?_⟩
    obtain ⟨X', hX', hle⟩ := hq.hpX hX
    unfold xlookup; simp only [hX', he, ha, hf, hz]
    refine ⟨es, hle.vmp hes, ?_, ?_⟩
    · intro u hu; rw [hm] at hu; cases hu
    · intro e; exact h'

theorem runm_xconvert {src dst : Nat} {x : TV} (h : xconvert tt src dst x s K) : RunM (xconvert tt src dst x) s K := by
  unfold xconvert at h
  split at h
  case h_2 => exact h.elim
  rename_i hX
  split at h
  case h_2 => exact h.elim
  rename_i h1 h2
  split at h
  case h_2 => exact h.elim
  rename_i h3 h4
  obtain ⟨l, hl, h⟩ := h
  refine ⟨_, h, fun s'' K' hq h' => ?_⟩
  obtain ⟨X', hX', hle⟩ := hq.hpX hX
  unfold xconvert; simp only [hX', h1, h2, h3, h4]; exact ⟨l, hle.view hl, h'⟩

theorem runm_xlen {t : Nat} {x : TV} (h : xlen tt t x s K) : RunM (xlen tt t x) s K := by
  unfold xlen at h
  split at h
  · rename_i hk
    exact ⟨_, h, fun _ _ _ h' => by unfold xlen; simp only [hk]; exact h'⟩
  · rename_i hk hX
    obtain ⟨es, he, h⟩ := h
    refine ⟨_, h, fun s'' K' hq h' => ?_⟩
    obtain ⟨X', hX', hle⟩ := hq.hpX hX
    unfold xlen; simp only [hk, hX']; exact ⟨es, hle.vmp he, h'⟩
  · exact h.elim

theorem rung_name {KF : St → (TV → St → Prop) → Prop} {X X' : XH} {x : TV} (hX : hpX s.hp = some X) (hle : XLe X X') (h : nameX s X' x K)
    (hh : ∀ s'' K', s''.hp = s.hp → nameX s'' X' x K' → KF s'' K') : RunG KF s K := by
  refine ⟨x, (setX s X').hp, h X' rfl, .inr ⟨X, X', hX, rfl, hle⟩, fun s'' K' hq h' => hh s'' K' hq ?_⟩
  intro X' e
  subst e
  rw [setX_hp hq]; exact h'

theorem rung_xalloc {c : Xd} {e : Nat} (h : xalloc tt c e s K) : RunG (xalloc tt c e) s K := by
  unfold xalloc at h
  split at h
  case h_2 => exact h.elim
  rename_i h1 h2
  refine rung_name (by first | exact h1 | exact h2) (.add _ _) h fun s'' K' hq h' => ?_
  unfold xalloc; simp only [hq, h1, h2]; exact h'

theorem rung_xbox {c : Xd} {e : Nat} {x : TV} (h : xbox tt c e x s K) : RunG (xbox tt c e x) s K := by
  unfold xbox at h
  split at h
  case h_2 => exact h.elim
  rename_i h1 h2 h3
  refine rung_name (by first | exact h1 | exact h2 | exact h3) (.add _ _) h fun s'' K' hq h' => ?_
  unfold xbox; simp only [hq, h1, h2, h3]; exact h'

theorem rung_xmake {c : Xd} {t : Nat} {l m : TV} (h : xmake tt c t l m s K) : RunG (xmake tt c t l m) s K := by
  unfold xmake at h
  split at h
  case h_2 => exact h.elim
  rename_i h1 h2
  split at h
  case h_2 => exact h.elim
  rename_i h3
  obtain ⟨q0, q1, q2, q3, h⟩ := h
  refine rung_name (by first | exact h1 | exact h2 | exact h3) (.add _ _) h fun s'' K' hq h' => ?_
  unfold xmake; simp only [hq, h1, h2, h3]; exact ⟨q0, q1, q2, q3, h'⟩

theorem rung_xmakeMap {kc : Cd} {vc : Xd} {t : Nat} (h : xmakeMap tt kc vc t s K) : RunG (xmakeMap tt kc vc t) s K := by
  unfold xmakeMap at h
  split at h
  case h_2 => exact h.elim
  rename_i h1 h2
  split at h
  case h_2 => exact h.elim
  rename_i h3
  refine rung_name (by first | exact h1 | exact h2 | exact h3) (.add _ _) h fun s'' K' hq h' => ?_
  unfold xmakeMap; simp only [hq, h1, h2, h3]; exact h'

theorem rung_xlit {c : Xd} {t len : Nat} {parts : List (Nat × TV)} (h : xlit tt c t len parts s K) : RunG (xlit tt c t len parts) s K := by
  unfold xlit at h
  split at h
  case h_2 => exact h.elim
  rename_i h1 h2
  split at h
  case h_2 => exact h.elim
  rename_i h3 h4
  refine rung_name (by first | exact h1 | exact h2 | exact h3 | exact h4) (.add _ _) h fun s'' K' hq h' => ?_
  unfold xlit; simp only [hq, h1, h2, h3, h4]; exact h'

/-- one step, by its class -/
def RunF (tt : TT) (call : CallP) (md : Md) (o : Oper) (s : St) (K : TV → St → Prop) (c : Nat) : Prop :=
  ∃ x hp, K x ⟨s.tm, hp, s.T⟩ ∧ (c ≠ 2 → c ≠ 6 → hp = s.hp) ∧ s.hp.length ≤ hp.length ∧ (c = 6 → Grown s.hp hp) ∧
    ∀ s'' K', EvEq tt o s s'' → ((c = 0 ∧ K' x s'') ∨ (c = 5 ∧ Grown s.hp s''.hp ∧ K' x s'') ∨ (s''.hp = s.hp ∧ K' x ⟨s''.tm, hp, s''.T⟩)) → aop tt call md o s'' K'

theorem RunE.f (h : RunE tt call md o s K) (h0 : cls tt md o s ≠ 5) (h1 : cls tt md o s ≠ 6) : RunF tt call md o s K (cls tt md o s) := by
  obtain ⟨x, hp, e1, e2, e3, e4⟩ := h
  refine ⟨x, hp, e1, fun h2 _ => e2 h2, e3, fun e => absurd e h1, fun s'' K' he h => e4 s'' K' he ?_⟩
  rcases h with h | ⟨h, _⟩ | h
  · exact .inl h
  · exact absurd h h0
  · exact .inr h

theorem RunM.f {KF : St → (TV → St → Prop) → Prop} (hX : isX tt md o s = true) (hty : ((opTys o.op).all fun t => (tt.at t).ok) = true) (h : RunM KF s K)
    (hh : ∀ s'' K', EvEq tt o s s'' → KF s'' K' → xaop tt md o s'' K') : RunF tt call md o s K 5 := by
  obtain ⟨x, h1, h2⟩ := h
  refine ⟨x, s.hp, h1, fun _ _ => rfl, Nat.le_refl _, fun e => (by cases e), fun s'' K' he h => ?_⟩
  unfold aop
  rw [isX_congr he, hX]
  simp only [hty]
  refine hh s'' K' he ?_
  rcases h with ⟨h, _⟩ | ⟨_, h, h'⟩ | ⟨h, h'⟩
  · cases h
  · exact h2 s'' K' h h'
  · refine h2 s'' K' (by rw [h]; exact .refl _) ?_
    rw [← h] at h'; exact h'

theorem RunG.f {KF : St → (TV → St → Prop) → Prop} (hX : isX tt md o s = true) (hty : ((opTys o.op).all fun t => (tt.at t).ok) = true) (h : RunG KF s K)
    (hh : ∀ s'' K', EvEq tt o s s'' → KF s'' K' → xaop tt md o s'' K') : RunF tt call md o s K 6 := by
  obtain ⟨x, hp, h1, h2, h3⟩ := h
  refine ⟨x, hp, h1, fun _ e => absurd rfl e, by rw [h2.len]; exact Nat.le_refl _, fun _ => h2, fun s'' K' he h => ?_⟩
  unfold aop
  rw [isX_congr he, hX]
  simp only [hty]
  refine hh s'' K' he ?_
  rcases h with ⟨h, _⟩ | ⟨h, _⟩ | ⟨h, h'⟩
  · cases h
  · cases h
  · exact h3 s'' K' h h'

theorem cls_lt (tt : TT) (md : Md) (o : Oper) (s : St) : cls tt md o s < 5 := by
  have v1 : ∀ x : TV, vq x < 5 := fun x => by cases x <;> simp [vq]
  have v2 : ∀ l : List TV, vqs l < 5 := by
    intro l
    induction l with
    | nil => simp [vqs]
    | cons x l ih => cases x <;> first | exact ih | simp [vqs]
  unfold cls
  split <;> first
    | exact v1 _
    | decide
    | skip
  · unfold clsCv; split
    · decide
    · exact v1 _
  all_goals first
    | (unfold clsAs; split <;> decide)
    | (unfold clsBS; split <;> decide)
    | (unfold clsBi; split <;> decide)
    | skip
  · split
    · unfold clsB
      split <;> first
        | decide
        | exact v2 _
        | skip
      unfold clsApp
      split
      · decide
      · split
        · decide
        · split <;> decide
    · unfold clsV; split <;> decide
    · decide

theorem clsG_four (h : clsG tt md o s = 4) : cls tt md o s = 4 := by
  unfold clsG at h
  split at h
  · split at h
    · cases h
    · split at h <;> cases h
    · exact h
  · exact h

theorem xaop_runM (hX : isX tt md o s = true) (hty : ((opTys o.op).all fun t => (tt.at t).ok) = true) (h1 : cls tt md o s = 1) (h : xaop tt md o s K) : RunF tt call md o s K 5 := by
  unfold xaop at h
  cases hop : o.op <;> rw [hop] at h <;> dsimp only at h <;> first
    | exact h.elim
    | (simp [cls, hop] at h1; done)
    | skip
  case load t x =>
    refine RunM.f hX hty (runm_xload h) fun s'' K' he h' => ?_
    unfold xaop; simp only [hop]
    rw [he _ x (by simp [hop, Op.operands])]; exact h'
  case assign x => exfalso; simp only [cls, hop, clsAs] at h1; split at h1 <;> cases h1
  case binOp => exfalso; simp only [cls, hop, clsBi] at h1; split at h1 <;> cases h1
  case buildSlice t len parts => exfalso; simp only [cls, hop, clsBS] at h1; split at h1 <;> cases h1
  case convert src dst x =>
    refine RunM.f hX hty (runm_xconvert h) fun s'' K' he h' => ?_
    unfold xaop; simp only [hop]
    rw [he _ x (by simp [hop, Op.operands])]; exact h'
  case slice t x lo hi mx =>
    have opt : ∀ (s'' : St) (z : Option Operand), EvEq tt o s s'' → (∀ y, z = some y → y ∈ o.op.operands) → z.map (s''.ev tt 0) = z.map (s.ev tt 0) := by
      intro s'' z he hz
      cases z with
      | none => rfl
      | some y => simp only [Option.map_some, he 0 y (hz y rfl)]
    refine RunM.f hX hty (run_xslice (n := 0) h).m fun s'' K' he h' => ?_
    unfold xaop; simp only [hop]
    rw [he _ x (by simp [hop, Op.operands]), opt s'' lo he (by intro y hy; subst hy; simp [hop, Op.operands]), opt s'' hi he (by intro y hy; subst hy; simp [hop, Op.operands]),
      opt s'' mx he (by intro y hy; subst hy; simp [hop, Op.operands])]; exact h'
  case indexAddr t x i =>
    refine RunM.f hX hty (run_xindexAddr (n := 0) h).m fun s'' K' he h' => ?_
    unfold xaop; simp only [hop]
    rw [he _ x (by simp [hop, Op.operands]), he _ i (by simp [hop, Op.operands])]; exact h'
  case lookup t m k ok =>
    refine RunM.f hX hty (runm_xlookup h) fun s'' K' he h' => ?_
    unfold xaop; simp only [hop]
    rw [he _ m (by simp [hop, Op.operands]), he _ k (by simp [hop, Op.operands])]; exact h'
  case call c =>
    split at h
    case h_2 => exact h.elim
    rename_i b hce
    have hargs : ∀ s'', EvEq tt o s s'' → c.args.toList.map (s''.evx tt 0) = c.args.toList.map (s.evx tt 0) := fun s'' he =>
      map_congr fun z hz => evx_eq he (by rw [hop]; simp [Op.operands, Call.operands, Array.mem_toList_iff.1 hz])
    have fin : ∀ {KF : St → (TV → St → Prop) → Prop}, RunM KF s K → (∀ s'' K', KF s'' K' → xbuiltin tt md b (c.args.toList.map (s.evx tt 0)) c.argTypes.toList s'' K') → RunF tt call md o s K 5 := by
      intro KF h1 h2
      refine RunM.f hX hty h1 fun s'' K' he h' => ?_
      unfold xaop; simp only [hop, hce]
      rw [hargs s'' he]; exact h2 s'' K' h'
    unfold xbuiltin at h
    split at h
    · rename_i x t h1 h2
      exact fin (runm_xlen h) fun s'' K' h' => by unfold xbuiltin; simp only [h1, h2]; exact h'
    · rename_i x t h1 h2
      exact fin (run_xcap (n := 0) h).m fun s'' K' h' => by unfold xbuiltin; simp only [h1, h2]; exact h'
    · exfalso
      simp only [cls, hop, hce, clsB] at h1
      unfold clsApp at h1
      split at h1
      · cases h1
      · split at h1
        · cases h1
        · split at h1 <;> cases h1
    · exfalso; simp [cls, hop, hce, clsB] at h1
    · exfalso; simp [cls, hop, hce, clsB] at h1
    · exfalso; simp [cls, hop, hce, clsB] at h1
    · exact h.elim

theorem xaop_runG (hX : isX tt md o s = true) (hty : ((opTys o.op).all fun t => (tt.at t).ok) = true) (ha : isAdd o.op = true) (h : xaop tt md o s K) : RunF tt call md o s K 6 := by
  unfold xaop at h
  cases hop : o.op <;> rw [hop] at h ha <;> dsimp only at h <;> first
    | exact h.elim
    | (cases ha; done)
    | skip
  case alloc e =>
    split at h
    case h_2 => exact h.elim
    refine RunG.f hX hty (rung_xalloc h) fun s'' K' he h' => ?_
    unfold xaop; simp only [hop]; exact h'
  case box e x =>
    split at h
    case h_2 => exact h.elim
    refine RunG.f hX hty (rung_xbox h) fun s'' K' he h' => ?_
    unfold xaop; simp only [hop]
    rw [evx_eq he (by simp [hop, Op.operands])]; exact h'
  case buildSlice t len parts =>
    split at h
    case h_2 => exact h.elim
    refine RunG.f hX hty (rung_xlit h) fun s'' K' he h' => ?_
    unfold xaop; simp only [hop]
    rw [parts_congr (fun p hp => evx_eq (tt := tt) (ty := 0) he (by rw [hop]; simp [Op.operands]; exact ⟨p.1, Array.mem_toList_iff.1 hp⟩))]; exact h'
  case makeMap t r =>
    cases r with
    | some r => exact h.elim
    | none =>
      dsimp only at h
      split at h
      case h_2 => exact h.elim
      refine RunG.f hX hty (rung_xmakeMap h) fun s'' K' he h' => ?_
      unfold xaop; simp only [hop]; exact h'
  case makeSlice t l c =>
    split at h
    case h_2 => exact h.elim
    refine RunG.f hX hty (rung_xmake h) fun s'' K' he h' => ?_
    unfold xaop; simp only [hop]
    rw [he _ l (by simp [hop, Op.operands]), he _ c (by simp [hop, Op.operands])]; exact h'

theorem clsG_false (hX : isX tt md o s = false) : clsG tt md o s = cls tt md o s := by
  unfold clsG; rw [hX]

theorem clsG_true (hX : isX tt md o s = true) : (cls tt md o s = 1 ∧ clsG tt md o s = 5) ∨ (cls tt md o s = 2 ∧ isAdd o.op = true ∧ clsG tt md o s = 6) ∨ clsG tt md o s = cls tt md o s := by
  unfold clsG; rw [hX]
  dsimp only
  split
  · rename_i h; exact .inl ⟨h, rfl⟩
  · rename_i h
    cases ha : isAdd o.op with
    | true => exact .inr (.inl ⟨h, rfl, rfl⟩)
    | false => exact .inr (.inr h.symm)
  · exact .inr (.inr rfl)

theorem clsG_le (tt : TT) (md : Md) (o : Oper) (s : St) : clsG tt md o s ≤ 6 := by
  have hlt := cls_lt tt md o s
  cases hX : isX tt md o s with
  | false => rw [clsG_false hX]; omega
  | true => rcases clsG_true hX with ⟨_, h⟩ | ⟨_, _, h⟩ | h <;> rw [h] <;> omega

theorem aop_runF (hcd : CallDet call) (h3 : clsG tt md o s ≠ 3) (h4 : clsG tt md o s ≠ 4) (h : aop tt call md o s K) : RunF tt call md o s K (clsG tt md o s) := by
  have hlt := cls_lt tt md o s
  have old : clsG tt md o s = cls tt md o s → RunF tt call md o s K (clsG tt md o s) := by
    intro e
    rw [e] at h3 h4 ⊢
    exact (aop_run hcd h3 h4 h).f (by omega) (by omega)
  cases hX : isX tt md o s with
  | false => exact old (clsG_false hX)
  | true =>
    unfold aop at h
    rw [hX] at h
    dsimp only at h
    split at h
    case h_2 => exact h.elim
    rename_i hty
    rcases clsG_true hX with ⟨h1, h2⟩ | ⟨h1, ha, h2⟩ | h1
    · rw [h2]; exact xaop_runM hX hty h1 h
    · rw [h2]; exact xaop_runG hX hty ha h
    · exact old h1

theorem aop_runFA (h4 : clsG tt md o s = 4) (h : aop tt call md o s K) : RunEA tt call md o s K := aop_runA (clsG_four h4) h

end
end Go.Proofs.Ytaaedebknacheaa.AB

set_option linter.unusedVariables false
set_option linter.unusedSimpArgs false
namespace Go.Proofs.Ytaaedebknacheaa.AB
open Go

/-- what is listed holds what it stands behind -/
def Closed (ops : Array Oper) (S : Nat → Prop) : Prop := ∀ k o, S k → ops[k]? = some o → ∀ e ∈ o.after, Region.binds .any e = true → S e.on

def RowOK (ops : Array Oper) (k row : Nat) : Prop := ∀ (S : Nat → Prop) o, Closed ops S → ops[k]? = some o → (∀ e ∈ o.after, Region.binds .any e = true → S e.on) →
  ∀ j, Nat.testBit row j = true → S j

theorem ancRow_ok {ops : Array Oper} {rows : List Nat} {S : Nat → Prop} (hS : Closed ops S) (hrows : ∀ k row, rows[k]? = some row → RowOK ops k row)
    (hsz : rows.length ≤ ops.size) : ∀ (l : List Edge), (∀ e ∈ l, Region.binds .any e = true → S e.on) →
    ∀ j, Nat.testBit (ancRow rows l) j = true → S j
  | [], _, j, h => by simp [ancRow] at h
  | e :: r, he, j, h => by
    have ih := ancRow_ok hS hrows hsz r (fun e he' => he e (List.mem_cons_of_mem _ he')) j
    unfold ancRow at h
    cases hb : Region.binds .any e with
    | false => rw [hb] at h; exact ih h
    | true =>
      rw [hb] at h
      have hse := he e (List.mem_cons_self ..) hb
      have h : Nat.testBit ((2 ^ e.on ||| rows.getD e.on 0) ||| ancRow rows r) j = true := h
      rw [Nat.testBit_or, Nat.testBit_or, Bool.or_eq_true, Bool.or_eq_true] at h
      rcases h with (h | h) | h
      · rw [Nat.testBit_two_pow] at h
        have : e.on = j := by simpa using h
        exact this ▸ hse
      · cases hr : rows[e.on]? with
        | none => simp [List.getD, hr] at h
        | some row =>
          have h : Nat.testBit row j = true := by simpa [List.getD, hr] using h
          have hlt : e.on < ops.size := by
            have := (List.getElem?_eq_some_iff.1 hr).1
            omega
          have ho : ops[e.on]? = some ops[e.on] := Array.getElem?_eq_getElem hlt
          exact hrows e.on row hr S _ hS ho (hS e.on _ hse ho) j h
      · exact ih h

theorem pairsOK_get {ops : Array Oper} {row : Nat} {o : Oper} {c : Nat} : ∀ (prev : List (Oper × Nat)) (j : Nat), pairsOK ops row o c j prev = true →
    ∀ (k : Nat) p, prev[k]? = some p → Nat.testBit row (j + k) = true ∨ (p.1.apart ops o = true ∧ compat p.2 c = true)
  | [], j, h, k, p, hk => by simp at hk
  | q :: r, j, h, k, p, hk => by
    unfold pairsOK at h
    rw [Bool.and_eq_true, Bool.or_eq_true, Bool.and_eq_true] at h
    cases k with
    | zero => simp at hk; subst hk; exact h.1
    | succ k =>
      rw [List.getElem?_cons_succ] at hk
      have := pairsOK_get r (j + 1) h.2 k p hk
      rwa [Nat.add_assoc, Nat.add_comm 1 k] at this

/-- what the check shows -/
structure DrawS (ops : Array Oper) (cl : List Nat) (rows : List Nat) (n : Nat) : Prop where
  edge : ∀ i o, i < n → ops[i]? = some o → ∀ e ∈ o.after, Region.binds .any e = true → e.on < i
  row : ∀ k row, rows[k]? = some row → RowOK ops k row
  pair : ∀ j i oj oi, j < i → i < n → ops[j]? = some oj → ops[i]? = some oi → Nat.testBit (rows.getD i 0) j = true ∨ (oj.apart ops oi = true ∧ compat (cl.getD j 0) (cl.getD i 0) = true)

theorem drawGo_spec {ops : Array Oper} : ∀ (l : List Oper) (cs : List Nat) (prev : List (Oper × Nat)) (rows : List Nat), drawGo ops prev rows l cs = true →
    prev.map (·.1) ++ l = ops.toList → rows.length = prev.length → DrawS ops (prev.map (·.2) ++ cs) rows prev.length → ∃ rows', DrawS ops (prev.map (·.2) ++ cs) rows' (prev.length + cs.length)
  | [], [], prev, rows, _, h1, h2, h => ⟨rows, h⟩
  | [], _ :: _, prev, rows, h0, _, _, _ => by simp [drawGo] at h0
  | _ :: _, [], prev, rows, h0, _, _, h => ⟨rows, h⟩
  | o :: r, c :: cs, prev, rows, h0, h1, h2, h => by
    unfold drawGo at h0
    rw [Bool.and_eq_true, Bool.and_eq_true] at h0
    obtain ⟨⟨he, hp⟩, hgo⟩ := h0
    have hsz : ops.size = prev.length + (r.length + 1) := by rw [← Array.length_toList, ← h1]; simp
    have hat : ops[prev.length]? = some o := by
      rw [← Array.getElem?_toList, ← h1, List.getElem?_append_right (by simp)]; simp
    have hprev : ∀ (j : Nat) oj, j < prev.length → ops[j]? = some oj → prev[j]? = some (oj, (prev.map (·.2) ++ c :: cs).getD j 0) := by
      intro j oj hj ho
      rw [← Array.getElem?_toList, ← h1, List.getElem?_append_left (by simpa using hj), List.getElem?_map] at ho
      have hx : prev[j]? = some prev[j] := List.getElem?_eq_getElem hj
      rw [hx] at ho
      simp only [Option.map_some, Option.some.injEq] at ho
      rw [hx]
      simp only [List.getD, List.getElem?_append_left (show j < (prev.map (·.2)).length by simpa using hj), List.getElem?_map, hx, Option.map_some, Option.getD_some, ← ho]
    have heq : (prev ++ [(o, c)]).map (·.2) ++ cs = prev.map (·.2) ++ c :: cs := by simp
    have hedge : ∀ e ∈ o.after, Region.binds .any e = true → e.on < prev.length := by
      intro e hm hb
      have := List.all_eq_true.1 he e (Array.mem_toList_iff.2 hm)
      rw [hb] at this
      simp only [Bool.not_true, Bool.false_or] at this
      rw [← h2]
      rwa [Nat.blt_eq] at this
    have := drawGo_spec r cs (prev ++ [(o, c)]) (rows ++ [ancRow rows o.after.toList]) hgo (by simpa using h1) (by simp [h2]) (by
      rw [heq]
      refine ⟨?_, ?_, ?_⟩
      · intro i o' hi ho' e hm hb
        simp only [List.length_append, List.length_cons, List.length_nil] at hi
        rcases Nat.lt_or_ge i prev.length with hi' | hi'
        · exact h.edge i o' hi' ho' e hm hb
        · have : i = prev.length := by omega
          subst this
          rw [hat] at ho'; cases ho'
          exact hedge e hm hb
      · intro k row hk
        rcases Nat.lt_or_ge k rows.length with hk' | hk'
        · rw [List.getElem?_append_left hk'] at hk
          exact h.row k row hk
        · rw [List.getElem?_append_right hk'] at hk
          have hk0 : k - rows.length = 0 := by
            have := (List.getElem?_eq_some_iff.1 hk).1
            simp at this; omega
          have hkk : k = prev.length := by omega
          subst hkk
          rw [hk0] at hk
          simp at hk
          subst hk
          intro S o' hS ho' hd j hj
          rw [hat] at ho'; cases ho'
          exact ancRow_ok hS h.row (by omega) o.after.toList (fun e he => hd e (Array.mem_toList_iff.1 he)) j hj
      · intro j i oj oi hji hi hoj hoi
        simp only [List.length_append, List.length_cons, List.length_nil] at hi
        rcases Nat.lt_or_ge i prev.length with hi' | hi'
        · have := h.pair j i oj oi hji hi' hoj hoi
          have hg : (rows ++ [ancRow rows o.after.toList]).getD i 0 = rows.getD i 0 := by
            simp only [List.getD]; rw [List.getElem?_append_left (by omega)]
          rw [hg]; exact this
        · have hii : i = prev.length := by omega
          subst hii
          rw [hat] at hoi; cases hoi
          have hg : (rows ++ [ancRow rows o.after.toList]).getD prev.length 0 = ancRow rows o.after.toList := by
            simp only [List.getD]; rw [List.getElem?_append_right (by omega)]; simp [h2]
          have hc : (prev.map (·.2) ++ c :: cs).getD prev.length 0 = c := by
            simp only [List.getD]; rw [List.getElem?_append_right (by simp)]; simp
          rw [hg, hc]
          have := pairsOK_get prev 0 hp j _ (hprev j oj hji hoj)
          rwa [Nat.zero_add] at this)
    rw [heq] at this
    have e : (prev ++ [(o, c)]).length + cs.length = prev.length + (c :: cs).length := by simp; omega
    rw [e] at this
    exact this

theorem drawOK_spec {ops : Array Oper} {cl : List Nat} (h : drawOK ops cl = true) : ∃ rows, DrawS ops cl rows cl.length := by
  have := drawGo_spec ops.toList cl [] [] h rfl rfl ⟨fun _ _ hi => (Nat.not_lt_zero _ hi).elim, fun k row hk => by simp at hk, fun _ _ _ _ _ hi => (Nat.not_lt_zero _ hi).elim⟩
  simpa using this

theorem allBits_spec {row : Nat} : ∀ (k : Nat), allBits row k = true → ∀ j, j < k → Nat.testBit row j = true
  | 0, _, j, hj => (Nat.not_lt_zero _ hj).elim
  | k + 1, h, j, hj => by
    unfold allBits at h
    rw [Bool.and_eq_true] at h
    rcases Nat.lt_or_ge j k with h' | h'
    · exact allBits_spec k h.2 j h'
    · have : j = k := by omega
      subst this; exact h.1

/-- from b on each stands behind all ahead of it -/
structure TailS (ops : Array Oper) (b : Nat) : Prop where
  edge : ∀ i o, b ≤ i → ops[i]? = some o → ∀ e ∈ o.after, Region.binds .any e = true → e.on < i
  all : ∀ i o, b ≤ i → ops[i]? = some o → ∀ (S : Nat → Prop), Closed ops S → (∀ e ∈ o.after, Region.binds .any e = true → S e.on) → ∀ j, j < i → S j

theorem tailGo_spec {ops : Array Oper} {b : Nat} : ∀ (l : List Oper) (rows : List Nat) (pre : List Oper), tailGo b rows l = true → pre ++ l = ops.toList → rows.length = pre.length →
    (∀ k row, rows[k]? = some row → RowOK ops k row) → ∀ k o, l[k]? = some o → b ≤ rows.length + k →
    (∀ e ∈ o.after, Region.binds .any e = true → e.on < rows.length + k) ∧ ∀ (S : Nat → Prop), Closed ops S → (∀ e ∈ o.after, Region.binds .any e = true → S e.on) → ∀ j, j < rows.length + k → S j
  | [], rows, pre, _, _, _, _, k, o, hk, _ => by simp at hk
  | o :: r, rows, pre, h, h1, h2, hrow, k, o', hk, hb => by
    unfold tailGo at h
    rw [Bool.and_eq_true] at h
    have hsz : ops.size = pre.length + (r.length + 1) := by rw [← Array.length_toList, ← h1]; simp
    have hat : ops[pre.length]? = some o := by
      rw [← Array.getElem?_toList, ← h1, List.getElem?_append_right (by simp)]; simp
    cases k with
    | zero =>
      simp only [List.getElem?_cons_zero, Option.some.injEq] at hk
      subst hk
      obtain ⟨h3, _⟩ := h
      rw [Bool.or_eq_true] at h3
      rcases h3 with h3 | h3
      · rw [Nat.blt_eq] at h3; omega
      · rw [Bool.and_eq_true] at h3
        refine ⟨fun e hm hbe => ?_, fun S hS hd j hj => ?_⟩
        · have := List.all_eq_true.1 h3.1 e (Array.mem_toList_iff.2 hm)
          rw [hbe] at this
          simp only [Bool.not_true, Bool.false_or] at this
          rwa [Nat.blt_eq] at this
        · exact ancRow_ok hS hrow (by omega) o.after.toList (fun e he => hd e (Array.mem_toList_iff.1 he)) j (allBits_spec _ h3.2 j hj)
    | succ k =>
      rw [List.getElem?_cons_succ] at hk
      have := tailGo_spec r (rows ++ [ancRow rows o.after.toList]) (pre ++ [o]) h.2 (by simpa using h1) (by simp [h2]) (fun k row hk => by
        rcases Nat.lt_or_ge k rows.length with hk' | hk'
        · rw [List.getElem?_append_left hk'] at hk
          exact hrow k row hk
        · rw [List.getElem?_append_right hk'] at hk
          have hk0 : k - rows.length = 0 := by
            have := (List.getElem?_eq_some_iff.1 hk).1
            simp at this; omega
          have hkk : k = pre.length := by omega
          subst hkk
          rw [hk0] at hk
          simp at hk
          subst hk
          intro S o' hS ho' hd j hj
          rw [hat] at ho'; cases ho'
          exact ancRow_ok hS hrow (by omega) o.after.toList (fun e he => hd e (Array.mem_toList_iff.1 he)) j hj) k o' hk (by simp; omega)
      have e : (rows ++ [ancRow rows o.after.toList]).length + k = rows.length + (k + 1) := by simp; omega
      rw [e] at this
      exact this

theorem tailOK_spec {ops : Array Oper} {b : Nat} (h : tailOK ops b = true) : TailS ops b := by
  have key := fun i o (hb : b ≤ i) (ho : ops[i]? = some o) => tailGo_spec ops.toList [] [] h rfl rfl (fun k row hk => by simp at hk) i o (by rw [Array.getElem?_toList]; exact ho) (by simpa using hb)
  simp only [List.length_nil, Nat.zero_add] at key
  exact ⟨fun i o hb ho => (key i o hb ho).1, fun i o hb ho => (key i o hb ho).2⟩

theorem tailS_end (ops : Array Oper) {b : Nat} (h : ops.size ≤ b) : TailS ops b :=
  ⟨fun i o hb ho => absurd (Array.getElem?_eq_some_iff.1 ho).1 (by omega), fun i o hb ho => absurd (Array.getElem?_eq_some_iff.1 ho).1 (by omega)⟩

end Go.Proofs.Ytaaedebknacheaa.AB

set_option linter.unusedVariables false
set_option linter.unusedSimpArgs false
namespace Go.Proofs.Ytaaedebknacheaa.AB
open Go

abbrev tu : TV := .v .undef
/-- the slot of an operation that was skipped -/
abbrev tg : TV := .v (.tup [])

/-- the same to memory -/
def Req (x y : TV) : Prop := ∀ G v, TR G x v ↔ TR G y v

theorem Req.refl (x : TV) : Req x x := fun _ _ => Iff.rfl
theorem Req.symm {x y : TV} (h : Req x y) : Req y x := fun G v => (h G v).symm
theorem Req.trans {x y z : TV} (h : Req x y) (k : Req y z) : Req x z := fun G v => (h G v).trans (k G v)

theorem req_tt : Req (.v (.bool true)) (.v .tt) := fun G v => ⟨fun h => by
  cases h with
  | v _ _ h => cases h; exact .v _ _ .tt, fun h => by
  cases h with
  | v _ _ h => cases h; exact .v _ _ (.bool true)⟩

theorem req_ff : Req (.v (.bool false)) (.v .ff) := fun G v => ⟨fun h => by
  cases h with
  | v _ _ h => cases h; exact .v _ _ .ff, fun h => by
  cases h with
  | v _ _ h => cases h; exact .v _ _ (.bool false)⟩

/-- a step in the order of the text -/
structure StepOK (tt : TT) (call : CallP) (md : Md) (ops : Array Oper) (o : Oper) (s p s' : St) (x : TV) (w : Bool) (c : Nat) (tk : Tok) : Prop where
  hp : p.hp = s.hp
  T : p.T = s.T
  len : p.tm.length = s.tm.length
  req : ∀ t, Req (s.tm.getD t tu) (p.tm.getD t tu)
  guard : ∀ j want, o.guard = some (j, want) → ∃ t b, (ops[j]?).bind (·.dst) = some t ∧ ((p.tm.getD t tu = .v (cond b .tt .ff) ∧ w = (b == want)) ∨ (p.tm.getD t tu = tg ∧ w = false))
  free : o.guard = none → w = true
  tm : s'.tm = match o.dst with
    | some d => p.tm.set d x
    | none => p.tm
  run : w = true → c ≠ 4 → ∀ s'' K', EvEq tt o p s'' → ((c = 0 ∧ K' x s'') ∨ (c = 5 ∧ Grown s.hp s''.hp ∧ K' x s'') ∨ (s''.hp = s.hp ∧ K' x ⟨s''.tm, s'.hp, s''.T⟩)) → aop tt call md o s'' K'
  skip : w = false → x = tg ∧ c = 0
  calm : isEf c = false → s'.hp = s.hp
  add : c = 6 → Grown s.hp s'.hp
  calmT : c ≠ 4 → s'.T = s.T
  app : c = 4 → ∃ (z : Operand) (cd : Cd) (l0 : List cd.T) (cd' : Cd) (l : List cd'.T), z ∈ o.op.operands ∧ p.ev tt 0 z = .v (.list cd l0 tk) ∧ tk.own s.T.l ∧ x = .v (.list cd' l (.tk s.T.n)) ∧
    s'.T = ⟨s.T.n + 1, s.T.n :: tk.drop s.T.l⟩ ∧
    ∀ s'' K', EvEq tt o p s'' → tk.own s''.T.l → K' (.v (.list cd' l (.tk s''.T.n))) ⟨s''.tm, s''.hp, ⟨s''.T.n + 1, s''.T.n :: tk.drop s''.T.l⟩⟩ → aop tt call md o s'' K'
  grow : s.hp.length ≤ s'.hp.length
  few : c < 3 ∨ c = 4 ∨ c = 5 ∨ c = 6

theorem getD_set {l : List TV} {d t : Nat} {x : TV} : (l.set d x).getD t tu = if d = t ∧ d < l.length then x else l.getD t tu := by
  simp only [List.getD, List.getElem?_set]
  split
  · rename_i e
    subst e
    split
    · rename_i hl; simp [hl]
    · rename_i hl
      simp only [hl, and_false, if_false]
      rw [List.getElem?_eq_none (by omega)]
  · rename_i e
    simp [e]

section
variable {tt : TT} {call : CallP} {mds : Mds} {rid : Nat} {ops : Array Oper} {K : St → Prop}

/-- the guard, taken apart -/
theorem guard_trace {o : Oper} {s : St} {run skip : St → Prop} (h : guardK ops s o.guard run skip) :
    ∃ p w, p.hp = s.hp ∧ p.T = s.T ∧ p.tm.length = s.tm.length ∧ (∀ t, Req (s.tm.getD t tu) (p.tm.getD t tu)) ∧
      (∀ j want, o.guard = some (j, want) → ∃ t b, (ops[j]?).bind (·.dst) = some t ∧ ((p.tm.getD t tu = .v (cond b .tt .ff) ∧ w = (b == want)) ∨ (p.tm.getD t tu = tg ∧ w = false))) ∧ (o.guard = none → w = true) ∧
      (w = true → run p) ∧ (w = false → skip p) := by
  unfold guardK at h
  split at h
  · rename_i hg
    exact ⟨s, true, rfl, rfl, rfl, fun _ => .refl _, fun j want e => (by rw [hg] at e; cases e), fun _ => rfl, fun _ => h, fun e => (by cases e)⟩
  · rename_i j want hg
    split at h
    case h_2 => exact h.elim
    rename_i t ht
    split at h
    · rename_i htt
      refine ⟨s, true == want, rfl, rfl, rfl, fun _ => .refl _, fun j' want' e => ?_, fun e => (by rw [hg] at e; cases e), ?_, ?_⟩
      · rw [hg] at e; cases e; exact ⟨t, true, ht, .inl ⟨htt, rfl⟩⟩
      · cases want <;> intro e <;> first
          | exact h
          | cases e
      · cases want <;> intro e <;> first
          | exact h
          | cases e
    · rename_i htt
      refine ⟨s, false == want, rfl, rfl, rfl, fun _ => .refl _, fun j' want' e => ?_, fun e => (by rw [hg] at e; cases e), ?_, ?_⟩
      · rw [hg] at e; cases e; exact ⟨t, false, ht, .inl ⟨htt, rfl⟩⟩
      · cases want <;> intro e <;> first
          | exact h
          | cases e
      · cases want <;> intro e <;> first
          | exact h
          | cases e
    · rename_i b htt
      have htl : t < s.tm.length := by
        rcases Nat.lt_or_ge t s.tm.length with h' | h'
        · exact h'
        · simp [List.getD, List.getElem?_eq_none h'] at htt
      have hreq : ∀ {y : TV}, Req (.v (.bool b)) y → ∀ t', Req (s.tm.getD t' tu) ((s.tm.set t y).getD t' tu) := by
        intro y hy t'
        rw [getD_set]
        split
        · rename_i e
          obtain ⟨rfl, _⟩ := e
          rw [show s.tm.getD t tu = .v (.bool b) from htt]; exact hy
        · exact .refl _
      cases b
      · have h := h.2 rfl
        refine ⟨s.put (some t) (.v .ff), false == want, rfl, rfl, by simp [St.put], hreq req_ff, fun j' want' e => ?_, fun e => (by rw [hg] at e; cases e), ?_, ?_⟩
        · rw [hg] at e; cases e
          refine ⟨t, false, ht, .inl ⟨?_, rfl⟩⟩
          simp only [St.put]; rw [getD_set, if_pos ⟨rfl, htl⟩]; rfl
        · cases want <;> intro e <;> first
            | exact h
            | cases e
        · cases want <;> intro e <;> first
            | exact h
            | cases e
      · have h := h.1 rfl
        refine ⟨s.put (some t) (.v .tt), true == want, rfl, rfl, by simp [St.put], hreq req_tt, fun j' want' e => ?_, fun e => (by rw [hg] at e; cases e), ?_, ?_⟩
        · rw [hg] at e; cases e
          refine ⟨t, true, ht, .inl ⟨?_, rfl⟩⟩
          simp only [St.put]; rw [getD_set, if_pos ⟨rfl, htl⟩]; rfl
        · cases want <;> intro e <;> first
            | exact h
            | cases e
        · cases want <;> intro e <;> first
            | exact h
            | cases e
    · rename_i htt
      refine ⟨s, false, rfl, rfl, rfl, fun _ => .refl _, fun j' want' e => ?_, fun e => (by rw [hg] at e; cases e), fun e => (by cases e), fun _ => h⟩
      rw [hg] at e; cases e; exact ⟨t, false, ht, .inr ⟨htt, rfl⟩⟩
    · exact h.elim

theorem trace (hcd : CallDet call) : ∀ (l : List Oper) (i : Nat) (fl : List Nat) (s : St), awpD tt call mds rid ops i l fl K s →
    ∃ (st pr : Nat → St) (x : Nat → TV) (w : Nat → Bool) (cl : List Nat) (tk : Nat → Tok), st 0 = s ∧ cl.length ≤ l.length ∧
      (∀ k o, k < cl.length → l[k]? = some o → StepOK tt call (mds.at rid (i + k)) ops o (st k) (pr k) (st (k + 1)) (x k) (w k) (cl.getD k 0) (tk k)) ∧
      drawOK ops (fl.reverse ++ cl) = true ∧ (cl.length < l.length → tailOK ops (i + cl.length) = true) ∧
      ((has4 (cl.reverse ++ fl) = false ∧ awpL tt call mds rid ops (i + cl.length) (l.drop cl.length) K (st cl.length)) ∨
        ∀ m, (st cl.length).T.n ≤ m → awpL tt call mds rid ops (i + cl.length) (l.drop cl.length) K { (st cl.length) with T := ⟨m, (st cl.length).T.l⟩ })
  | [], i, fl, s, h => by
    unfold awpD at h
    split at h
    · rename_i hd
      refine ⟨fun _ => s, fun _ => s, fun _ => tu, fun _ => true, [], fun _ => .no, rfl, Nat.le_refl _, fun k o hk => (Nat.not_lt_zero _ hk).elim, by simpa using hd, fun h => absurd h (Nat.lt_irrefl _), ?_⟩
      split at h
      · exact .inr h
      · rename_i h4
        exact .inl ⟨by simpa using h4, h⟩
    · exact h.elim
  | o :: r, i, fl, s, h => by
    unfold awpD at h
    split at h
    · split at h
      · rename_i hd
        rw [Bool.and_eq_true] at hd
        refine ⟨fun _ => s, fun _ => s, fun _ => tu, fun _ => true, [], fun _ => .no, rfl, Nat.zero_le _, fun k o hk => (Nat.not_lt_zero _ hk).elim, by simpa using hd.2, fun _ => hd.1, ?_⟩
        split at h
        · exact .inr h
        · rename_i h4
          exact .inl ⟨by simpa using h4, h⟩
      · exact h.elim
    obtain ⟨p, w, hp, hT, hlen, hreq, hg, hfree, hrun, hskip⟩ := guard_trace h
    have key : ∃ s' x c tk, StepOK tt call (mds.at rid i) ops o s p s' x w c tk ∧ awpD tt call mds rid ops (i + 1) r (c :: fl) K s' := by
      cases w with
      | true =>
        have h := hrun rfl
        split at h
        case h_2 => exact h.elim
        rename_i hne3
        have h3 : clsG tt (mds.at rid i) o p ≠ 3 := by
          intro e; rw [e] at hne3; cases hne3
        by_cases h4 : clsG tt (mds.at rid i) o p = 4
        · obtain ⟨z, cd, l0, cd', l, tk, e1, e2, e3, e4, e5⟩ := aop_runFA h4 h
          refine ⟨(⟨p.tm, p.hp, ⟨p.T.n + 1, p.T.n :: tk.drop p.T.l⟩⟩ : St).put o.dst (.v (.list cd' l (.tk p.T.n))), .v (.list cd' l (.tk p.T.n)), clsG tt (mds.at rid i) o p, tk,
            { hp := hp, T := hT, len := hlen, req := hreq, guard := hg, free := hfree, tm := ?_, run := fun _ hc => absurd h4 hc, skip := fun e => (by cases e), calm := ?_, add := fun e => (by rw [h4] at e; cases e), calmT := fun hc => absurd h4 hc, app := fun _ => ⟨z, cd, l0, cd', l, e1, e2, by rw [← hT]; exact e3, by rw [hT], ?_, e5⟩, grow := ?_, few := ?_ }, e4⟩
          · cases o.dst <;> rfl
          · intro _
            cases o.dst <;> exact hp
          · rw [← hT]
            cases o.dst <;> rfl
          · have : s.hp.length ≤ p.hp.length := by rw [hp]; exact Nat.le_refl _
            cases o.dst <;> exact this
          · exact .inr (.inl h4)
        · obtain ⟨x, hp', h1, h2, h3', h6, h5⟩ := aop_runF hcd h3 h4 h
          refine ⟨(⟨p.tm, hp', p.T⟩ : St).put o.dst x, x, clsG tt (mds.at rid i) o p, .no, { hp := hp, T := hT, len := hlen, req := hreq, guard := hg, free := hfree, tm := ?_, run := ?_, skip := fun e => (by cases e), calm := ?_, add := ?_, calmT := ?_, app := fun hc => absurd hc h4, grow := ?_, few := ?_ }, h1⟩
          · cases o.dst <;> rfl
          · intro _ _ s'' K' he h'
            refine h5 s'' K' he ?_
            rw [hp]
            cases hd : o.dst <;> rw [hd] at h' <;> exact h'
          · intro hc
            have := h2 (by intro e; rw [e] at hc; cases hc) (by intro e; rw [e] at hc; cases hc)
            rw [hp] at this
            cases o.dst <;> exact this
          · intro hc
            have := h6 hc
            rw [hp] at this
            cases o.dst <;> exact this
          · intro _
            cases o.dst <;> exact hT
          · rw [hp] at h3'
            cases o.dst <;> exact h3'
          · have := clsG_le tt (mds.at rid i) o p
            omega
      | false =>
        have h := hskip rfl
        refine ⟨p.put o.dst tg, tg, 0, .no, { hp := hp, T := hT, len := hlen, req := hreq, guard := hg, free := hfree, tm := ?_, run := fun e => (by cases e), skip := fun _ => ⟨rfl, rfl⟩, calm := fun _ => ?_, add := fun e => (by cases e), calmT := fun _ => ?_, app := fun e => (by cases e), grow := ?_, few := ?_ }, h⟩
        · cases o.dst <;> rfl
        · cases o.dst <;> exact hp
        · cases o.dst <;> exact hT
        · have : s.hp.length ≤ p.hp.length := by rw [hp]; exact Nat.le_refl _
          cases o.dst <;> exact this
        · exact .inl (by decide)
    obtain ⟨s', x, c, tk, hstep, hrest⟩ := key
    obtain ⟨st, pr, xs, ws, cl, tks, h0, hl, hst, hd, htl, hK⟩ := trace hcd r (i + 1) (c :: fl) s' hrest
    have e1 : i + (c :: cl).length = i + 1 + cl.length := by simp; omega
    refine ⟨fun k => match k with | 0 => s | k + 1 => st k, fun k => match k with | 0 => p | k + 1 => pr k, fun k => match k with | 0 => x | k + 1 => xs k,
      fun k => match k with | 0 => w | k + 1 => ws k, c :: cl, fun k => match k with | 0 => tk | k + 1 => tks k, rfl, by simpa using hl, fun k o' hkl hk => ?_, by simpa using hd, fun h => by rw [e1]; exact htl (by simpa using h), ?_⟩
    · cases k with
      | zero =>
        simp at hk
        subst hk
        rw [h0.symm] at hstep
        exact hstep
      | succ k =>
        rw [List.getElem?_cons_succ] at hk
        have := hst k o' (by simpa using hkl) hk
        rw [Nat.add_assoc, Nat.add_comm 1 k] at this
        exact this
    · rw [e1]
      simpa using hK

end
end Go.Proofs.Ytaaedebknacheaa.AB

set_option linter.unusedVariables false
set_option linter.unusedSimpArgs false
namespace Go.Proofs.Ytaaedebknacheaa.AB
open Go

def nFalse : List Bool → Nat
  | [] => 0
  | true :: l => nFalse l
  | false :: l => nFalse l + 1

theorem nFalse_set : ∀ (l : List Bool) (i : Nat), l[i]? = some false → nFalse l = nFalse (l.set i true) + 1
  | [], i, h => by simp at h
  | true :: l, 0, h => by simp at h
  | false :: l, 0, h => rfl
  | true :: l, i + 1, h => nFalse_set l i (by simpa using h)
  | false :: l, i + 1, h => congrArg (· + 1) (nFalse_set l i (by simpa using h))

theorem nFalse_zero : ∀ (l : List Bool), nFalse l = 0 → ∀ i : Nat, l[i]? ≠ some false
  | [], h, i, hi => by simp at hi
  | true :: l, h, 0, hi => by simp at hi
  | true :: l, h, i + 1, hi => nFalse_zero l h i (by simpa using hi)
  | false :: l, h, i, hi => by simp [nFalse] at h

theorem nFalse_replicate : ∀ n, nFalse (List.replicate n false) = n
  | 0 => rfl
  | n + 1 => congrArg (· + 1) (nFalse_replicate n)

def dstAt (ops : Array Oper) (j : Nat) : Option Nat := (ops[j]?).bind (·.dst)

def Cut (n : Nat) (S p : Nat → Prop) (m : Nat) : Prop := m ≤ n ∧ (∀ j, j < m → p j → S j) ∧ (∀ j, m ≤ j → p j → ¬ S j)

def Lst (listed : Array Bool) (j : Nat) : Prop := listed.getD j false = true

theorem lst_set {listed : Array Bool} {i j : Nat} (hi : i < listed.size) : Lst (listed.setIfInBounds i true) j ↔ j = i ∨ Lst listed j := by
  unfold Lst
  by_cases h : i = j
  · subst h
    simp [Array.getD_eq_getD_getElem?, Array.getElem?_setIfInBounds, hi]
  · rw [getD_set_ne false h]
    constructor
    · exact .inr
    · rintro (e | e)
      · exact absurd e.symm h
      · exact e

section
variable {P : Program} {tt : TT} {Mine : Mn} {G : Gh} {s : St} {a : Act} {w : World} {call : CallP} {mds : Mds} {rid h0 : Nat} {ops : Array Oper} {K : St → Prop}
  {st pr : Nat → St} {x : Nat → TV} {ws : Nat → Bool} {cl rows : List Nat} {tk : Nat → Tok}

abbrev Steps (tt : TT) (call : CallP) (mds : Mds) (rid : Nat) (ops : Array Oper) (st pr : Nat → St) (x : Nat → TV) (ws : Nat → Bool) (cl : List Nat) (tk : Nat → Tok) : Prop :=
  ∀ i o, i < cl.length → ops[i]? = some o → StepOK tt call (mds.at rid i) ops o (st i) (pr i) (st (i + 1)) (x i) (ws i) (cl.getD i 0) (tk i)

theorem steps_len (hsz : cl.length ≤ ops.size) (hst : Steps tt call mds rid ops st pr x ws cl tk) : ∀ m, m ≤ cl.length → (st m).tm.length = (st 0).tm.length
  | 0, _ => rfl
  | m + 1, hm => by
    have ho : ops[m]? = some ops[m] := Array.getElem?_eq_getElem (by omega)
    have h := hst m _ (by omega) ho
    rw [h.tm, ← steps_len hsz hst m (by omega), ← h.len]
    split <;> simp

theorem steps_slot (hsz : cl.length ≤ ops.size) (hst : Steps tt call mds rid ops st pr x ws cl tk) {t m : Nat} : ∀ k, m + k ≤ cl.length → (∀ j, m ≤ j → j < m + k → dstAt ops j ≠ some t) →
    Req ((st m).tm.getD t tu) ((st (m + k)).tm.getD t tu)
  | 0, _, _ => .refl _
  | k + 1, hk, hn => by
    have ho : ops[m + k]? = some ops[m + k] := Array.getElem?_eq_getElem (by omega)
    have h := hst (m + k) _ (by omega) ho
    refine (steps_slot hsz hst k (by omega) fun j h1 h2 => hn j h1 (by omega)).trans ((h.req t).trans ?_)
    rw [← Nat.add_assoc, h.tm]
    have hd := hn (m + k) (by omega) (by omega)
    unfold dstAt at hd
    rw [ho] at hd
    split
    · rename_i d e
      rw [getD_set, if_neg ?_]
      · exact .refl _
      · rintro ⟨rfl, _⟩
        exact hd e
    · exact .refl _

theorem steps_heap (hsz : cl.length ≤ ops.size) (hst : Steps tt call mds rid ops st pr x ws cl tk) {m : Nat} : ∀ k, m + k ≤ cl.length → (∀ j, m ≤ j → j < m + k → isEf (cl.getD j 0) = false) →
    (st (m + k)).hp = (st m).hp
  | 0, _, _ => rfl
  | k + 1, hk, hn => by
    have ho : ops[m + k]? = some ops[m + k] := Array.getElem?_eq_getElem (by omega)
    have h := (hst (m + k) _ (by omega) ho).calm (hn (m + k) (by omega) (by omega))
    have ih := steps_heap hsz hst k (by omega) fun j h1 h2 => hn j h1 (by omega)
    rw [← Nat.add_assoc, h]
    exact ih

theorem steps_grown (hsz : cl.length ≤ ops.size) (hst : Steps tt call mds rid ops st pr x ws cl tk) {m : Nat} : ∀ k, m + k ≤ cl.length → (∀ j, m ≤ j → j < m + k → isEf (cl.getD j 0) = true → cl.getD j 0 = 6) →
    Grown (st m).hp (st (m + k)).hp
  | 0, _, _ => .refl _
  | k + 1, hk, hn => by
    have ho : ops[m + k]? = some ops[m + k] := Array.getElem?_eq_getElem (by omega)
    have ih := steps_grown hsz hst k (by omega) fun j h1 h2 => hn j h1 (by omega)
    have h := hst (m + k) _ (by omega) ho
    rw [← Nat.add_assoc]
    cases he : isEf (cl.getD (m + k) 0) with
    | false => rw [h.calm he]; exact ih
    | true => exact ih.trans (h.add (hn (m + k) (by omega) (by omega) he))

/-- the numbers of tokens rise -/
theorem steps_tn (hsz : cl.length ≤ ops.size) (hst : Steps tt call mds rid ops st pr x ws cl tk) {m : Nat} : ∀ k, m + k ≤ cl.length → (st m).T.n ≤ (st (m + k)).T.n
  | 0, _ => Nat.le_refl _
  | k + 1, hk => by
    have ho : ops[m + k]? = some ops[m + k] := Array.getElem?_eq_getElem (by omega)
    have h := hst (m + k) _ (by omega) ho
    have ih := steps_tn hsz hst (m := m) k (by omega)
    rw [← Nat.add_assoc]
    by_cases h4 : cl.getD (m + k) 0 = 4
    · obtain ⟨_, _, _, _, _, _, _, _, _, e, _⟩ := h.app h4
      rw [e]
      exact Nat.le_succ_of_le ih
    · rw [h.calmT h4]; exact ih

theorem steps_tn_lt (hsz : cl.length ≤ ops.size) (hst : Steps tt call mds rid ops st pr x ws cl tk) {m m' : Nat} (h : m < m') (hm : m' ≤ cl.length) (h4 : cl.getD m 0 = 4) : (st m).T.n < (st m').T.n := by
  have ho : ops[m]? = some ops[m] := Array.getElem?_eq_getElem (by omega)
  obtain ⟨_, _, _, _, _, _, _, _, _, e, _⟩ := (hst m _ (by omega) ho).app h4
  have := steps_tn hsz hst (m := m + 1) (m' - (m + 1)) (by omega)
  rw [show m + 1 + (m' - (m + 1)) = m' by omega] at this
  rw [e] at this
  exact this

theorem mem_drop {t : Nat} {k : Tok} {l : List Nat} : t ∈ k.drop l ↔ t ∈ l ∧ k ≠ .tk t := by
  cases k with
  | no => simp [Tok.drop]
  | exact => simp [Tok.drop]
  | tk n =>
    simp only [Tok.drop, List.mem_filter, ne_eq, decide_eq_true_eq, Tok.tk.injEq]
    exact and_congr_right fun _ => ⟨fun h e => h e.symm, fun h e => h e.symm⟩

/-- the tokens there are when those of S are done -/
def Mem (st : Nat → St) (tk : Nat → Tok) (cl : List Nat) (n : Nat) (S : Nat → Prop) (t : Nat) : Prop :=
  (t ∈ (st 0).T.l ∨ ∃ j, j < n ∧ cl.getD j 0 = 4 ∧ S j ∧ t = (st j).T.n) ∧ ∀ j, j < n → cl.getD j 0 = 4 → S j → tk j ≠ .tk t

theorem steps_tl (hsz : cl.length ≤ ops.size) (hst : Steps tt call mds rid ops st pr x ws cl tk) (h0 : ∀ t ∈ (st 0).T.l, t < (st 0).T.n) : ∀ m, m ≤ cl.length →
    (∀ t ∈ (st m).T.l, t < (st m).T.n) ∧ ∀ t, t ∈ (st m).T.l → Mem st tk cl cl.length (fun j => j < m) t
  | 0, _ => ⟨h0, fun t ht => ⟨.inl ht, fun j _ _ h => absurd h (Nat.not_lt_zero _)⟩⟩
  | m + 1, hm => by
    obtain ⟨ih1, ih2⟩ := steps_tl hsz hst h0 m (by omega)
    have ho : ops[m]? = some ops[m] := Array.getElem?_eq_getElem (by omega)
    have h := hst m _ (by omega) ho
    have grow : ∀ t, Mem st tk cl cl.length (fun j => j < m) t → (cl.getD m 0 = 4 → tk m ≠ .tk t) → Mem st tk cl cl.length (fun j => j < m + 1) t := by
      rintro t ⟨h1, h2⟩ h3
      refine ⟨h1.imp id fun ⟨j, a, b, c, d⟩ => ⟨j, a, b, Nat.lt_succ_of_lt c, d⟩, fun j a b c => ?_⟩
      rcases Nat.lt_or_ge j m with h' | h'
      · exact h2 j a b h'
      · have : j = m := by omega
        subst this; exact h3 b
    by_cases h4 : cl.getD m 0 = 4
    · obtain ⟨_, _, _, _, _, _, _, hown, _, e, _⟩ := h.app h4
      rw [e]
      have hlt : ∀ j, j ≤ m → cl.getD j 0 = 4 → tk j ≠ .tk (st m).T.n := by
        intro j hj hj4 he
        have hoj : ops[j]? = some ops[j] := Array.getElem?_eq_getElem (by omega)
        obtain ⟨_, _, _, _, _, _, _, hownj, _, _, _⟩ := (hst j _ (by omega) hoj).app hj4
        rw [he] at hownj
        have h1 := (steps_tl hsz hst h0 j (by omega)).1 _ hownj
        have h2 := steps_tn hsz hst (m := j) (m - j) (by omega)
        rw [show j + (m - j) = m by omega] at h2
        omega
      refine ⟨fun t ht => ?_, fun t ht => ?_⟩
      · rcases List.mem_cons.1 ht with rfl | ht
        · exact Nat.lt_succ_self _
        · exact Nat.lt_succ_of_lt (ih1 t (mem_drop.1 ht).1)
      · rcases List.mem_cons.1 ht with rfl | ht
        · exact ⟨.inr ⟨m, hm, h4, Nat.lt_succ_self m, rfl⟩, fun j _ b c => hlt j (by omega) b⟩
        · exact grow t (ih2 t (mem_drop.1 ht).1) fun _ => (mem_drop.1 ht).2
    · rw [h.calmT h4]
      exact ⟨ih1, fun t ht => grow t (ih2 t ht) fun e => absurd e h4⟩
  termination_by m => m

theorem steps_T (hsz : cl.length ≤ ops.size) (hst : Steps tt call mds rid ops st pr x ws cl tk) (h4 : ∀ j, j < cl.length → cl.getD j 0 ≠ 4) : ∀ m, m ≤ cl.length → (st m).T = (st 0).T
  | 0, _ => rfl
  | m + 1, hm => by
    have ho : ops[m]? = some ops[m] := Array.getElem?_eq_getElem (by omega)
    rw [(hst m _ (by omega) ho).calmT (h4 m (by omega))]
    exact steps_T hsz hst h4 m (by omega)

/-- two cuts that say the same of what lies between -/
theorem slot_between (hsz : cl.length ≤ ops.size) (hst : Steps tt call mds rid ops st pr x ws cl tk) {t m m' : Nat} (hm : m ≤ cl.length) (hm' : m' ≤ cl.length)
    (h1 : ∀ j, m ≤ j → j < m' → dstAt ops j ≠ some t) (h2 : ∀ j, m' ≤ j → j < m → dstAt ops j ≠ some t) : Req ((st m).tm.getD t tu) ((st m').tm.getD t tu) := by
  rcases Nat.le_total m m' with h | h
  · obtain ⟨k, rfl⟩ := Nat.le.dest h
    exact steps_slot hsz hst k hm' h1
  · obtain ⟨k, rfl⟩ := Nat.le.dest h
    exact (steps_slot hsz hst k hm h2).symm

theorem heap_between (hsz : cl.length ≤ ops.size) (hst : Steps tt call mds rid ops st pr x ws cl tk) {m m' : Nat} (hm : m ≤ cl.length) (hm' : m' ≤ cl.length)
    (h1 : ∀ j, m ≤ j → j < m' → isEf (cl.getD j 0) = false) (h2 : ∀ j, m' ≤ j → j < m → isEf (cl.getD j 0) = false) : (st m).hp = (st m').hp := by
  rcases Nat.le_total m m' with h | h
  · obtain ⟨k, rfl⟩ := Nat.le.dest h
    exact (steps_heap hsz hst k hm' h1).symm
  · obtain ⟨k, rfl⟩ := Nat.le.dest h
    exact steps_heap hsz hst k hm h2

/-- the tokens of a drawn order -/
def TokI (st : Nat → St) (tk : Nat → Tok) (cl : List Nat) (n : Nat) (S : Nat → Prop) (T' : Toks) (G' : Gh) : Prop :=
  ((∀ j, j < n → cl.getD j 0 ≠ 4) ∧ T' = (st 0).T) ∨
  ((st n).T.n < T'.n ∧ (∀ t, Mem st tk cl n S t → t ∈ T'.l) ∧ (∃ y, G'.tok (st n).T.n = some y) ∧ (∀ j, j < n → cl.getD j 0 = 4 → ¬ S j → G'.tok (st j).T.n = none) ∧ ¬ ∀ j, j < n → cl.getD j 0 ≠ 4)

/-- where a drawn order stands -/
def DI (Mine : Mn) (G : Gh) (h0 : Nat) (w0 : World) (ops : Array Oper) (st : Nat → St) (cl : List Nat) (tk : Nat → Tok) (S : Nat → Prop) (a : Act) (w : World) : Prop :=
  ∃ c m G' T', Rel Mine G' ⟨c, (st m).hp, T'⟩ a w ∧ Cut cl.length S (fun j => isEf (cl.getD j 0) = true) m ∧ c.length = (st 0).tm.length ∧
    (∀ t, ∃ m, Cut cl.length S (fun j => dstAt ops j = some t) m ∧ Req (c.getD t tu) ((st m).tm.getD t tu)) ∧ Fz G G' ∧ Lc h0 G G' ∧ h0 ≤ (st m).hp.length ∧ Stp Mine w0 w ∧ TokI st tk cl cl.length S T' G'

/-- what is known of tokens is known of fewer, and of a higher number -/
theorem Inv.toks' {hp : Hp} {T : Toks} (h : Inv Mine G hp T w) {m : Nat} {l : List Nat} (hm : T.n ≤ m) (hl : ∀ t ∈ l, t ∈ T.l) : Inv Mine G hp ⟨m, l⟩ w :=
  ⟨h.cells, h.mps, h.objs, h.inj, fun t ht => h.toks t (hl t ht), fun t ht => h.tobj t (hl t ht), fun t ht t' ht' => h.tinj t (hl t ht) t' (hl t' ht'), h.lb, h.gens,
    fun n hn => h.tfin n (Nat.le_trans hm hn), h.mine, h.old⟩

/-- a token's place, copied to a number that is free -/
def Gh.copyTok (G : Gh) (k n : Nat) : Gh := { G with tok := fun t => if t = n then G.tok k else G.tok t }

theorem copy_f0 {k n : Nat} (hn : G.tok n = none) : Fz0 G (G.copyTok k n) := by
  refine ⟨fun _ _ _ h => h, fun _ _ h => h, fun t y h => ?_⟩
  simp only [Gh.copyTok]
  rw [if_neg (fun e => by subst e; rw [hn] at h; cases h)]; exact h

theorem Inv.copyTok {hp : Hp} {m k n : Nat} {l : List Nat} (h : Inv Mine G hp ⟨m, k :: l⟩ w) (hn : G.tok n = none) (hnm : n < m) (hk : k ∉ l) : Inv Mine (G.copyTok k n) hp ⟨m, n :: l⟩ w := by
  have hf := copy_f0 (k := k) hn
  have hne : ∀ t ∈ k :: l, t ≠ n := by
    intro t ht e
    subst e
    obtain ⟨_, _, _, h1, _⟩ := h.toks t ht
    rw [hn] at h1; cases h1
  have hold : ∀ t ∈ k :: l, (G.copyTok k n).tok t = G.tok t := fun t ht => by simp only [Gh.copyTok]; rw [if_neg (hne t ht)]
  have hnew : (G.copyTok k n).tok n = G.tok k := by simp [Gh.copyTok]
  refine ⟨h.cells, h.mps, fun i o hi => (h.objs i o hi).keep h.lb hf (.refl _ _) (fun b _ => ⟨rfl, id⟩), h.inj, ?_, ?_, ?_, h.lb, h.gens, fun t ht => ?_, h.mine, h.old⟩
  · intro t ht
    rcases List.mem_cons.1 ht with rfl | ht
    · rw [hnew]; exact h.toks k (List.mem_cons_self ..)
    · rw [hold t (List.mem_cons_of_mem _ ht)]; exact h.toks t (List.mem_cons_of_mem _ ht)
  · intro t ht i o b e c h1 h2 h3
    rcases List.mem_cons.1 ht with rfl | ht
    · rw [hnew] at h1; exact h.tobj k (List.mem_cons_self ..) i o b e c h1 h2 h3
    · rw [hold t (List.mem_cons_of_mem _ ht)] at h1; exact h.tobj t (List.mem_cons_of_mem _ ht) i o b e c h1 h2 h3
  · intro t ht t' ht' hne' b e c e' c' h1 h2
    rcases List.mem_cons.1 ht with p | p
    · rcases List.mem_cons.1 ht' with q | q
      · exact hne' (p.trans q.symm)
      · rw [p, hnew] at h1; rw [hold t' (List.mem_cons_of_mem _ q)] at h2
        exact h.tinj k (List.mem_cons_self ..) t' (List.mem_cons_of_mem _ q) (fun e => hk (e ▸ q)) b e c e' c' h1 h2
    · rcases List.mem_cons.1 ht' with q | q
      · rw [q, hnew] at h2; rw [hold t (List.mem_cons_of_mem _ p)] at h1
        exact h.tinj t (List.mem_cons_of_mem _ p) k (List.mem_cons_self ..) (fun e => hk (e ▸ p)) b e c e' c' h1 h2
      · rw [hold t (List.mem_cons_of_mem _ p)] at h1; rw [hold t' (List.mem_cons_of_mem _ q)] at h2
        exact h.tinj t (List.mem_cons_of_mem _ p) t' (List.mem_cons_of_mem _ q) hne' b e c e' c' h1 h2
  · simp only [Gh.copyTok]
    rw [if_neg (by have : m ≤ t := ht; omega)]; exact h.tfin t ht

theorem rel_getD {c : List TV} {hp : Hp} {T : Toks} (hr : Rel Mine G ⟨c, hp, T⟩ a w) (t : Nat) : TR G (c.getD t tu) (a.tmps.getD t Go.undef) := by
  simp only [List.getD]
  cases h : c[t]? with
  | none => exact TR.undef _
  | some y => exact hr.tm t y h

/-- what an operation looks at, put where it stands in the order of the text -/
def seen (l : List Nat) (c p : List TV) : List TV := (List.range c.length).map fun t => if l.contains t then p.getD t tu else c.getD t tu

theorem seen_length (l : List Nat) (c p : List TV) : (seen l c p).length = c.length := by simp [seen]

theorem seen_getD {l : List Nat} {c p : List TV} (hl : p.length = c.length) (t : Nat) : (seen l c p).getD t tu = if l.contains t then p.getD t tu else c.getD t tu := by
  rcases Nat.lt_or_ge t c.length with h | h
  · simp [seen, List.getD, List.getElem?_map, List.getElem?_range h]
  · have h1 : (seen l c p).getD t tu = tu := by
      simp only [List.getD]; rw [List.getElem?_eq_none (by rw [seen_length]; exact h)]; rfl
    have h2 : p.getD t tu = tu := by simp only [List.getD]; rw [List.getElem?_eq_none (by omega)]; rfl
    have h3 : c.getD t tu = tu := by simp only [List.getD]; rw [List.getElem?_eq_none h]; rfl
    rw [h1, h2, h3]; split <;> rfl

theorem seen_rel {l : List Nat} {c p : List TV} {hp : Hp} {T : Toks} (hl : p.length = c.length) (hr : Rel Mine G ⟨c, hp, T⟩ a w)
    (hq : ∀ t, l.contains t = true → Req (c.getD t tu) (p.getD t tu)) : Rel Mine G ⟨seen l c p, hp, T⟩ a w := by
  refine ⟨by rw [← hr.len]; exact seen_length _ _ _, fun t x hx => ?_, hr.defers, hr.inv⟩
  have hx' : (seen l c p).getD t tu = x := by simp only [List.getD]; rw [hx]; rfl
  rw [seen_getD hl] at hx'
  have h := rel_getD hr t
  split at hx'
  · rename_i hc
    rw [← hx']; exact (hq t hc _ _).1 h
  · rw [← hx']; exact h

theorem drawn_step (htt : TTOK P tt) (hcs : CallS P call) (hsz : cl.length ≤ ops.size) (hst : Steps tt call mds rid ops st pr x ws cl tk) (hD : DrawS ops cl rows cl.length) {w0 : World} {i : Nat} {o : Oper}
    {S : Nat → Prop} {Q : Exit → Act → World → Prop} {next : Act → World → Prop} (hin : i < cl.length) (hSn : ∀ j, S j → j < cl.length) (ho : ops[i]? = some o) (hS : Closed ops S) (hi : ¬ S i)
    (hpre : ∀ e ∈ o.after, Region.binds .any e = true → S e.on) (hbase : ∀ t, (st 0).T.n ≤ t → G.tok t = none) (htl0 : ∀ t ∈ (st 0).T.l, t < (st 0).T.n) (h : DI Mine G h0 w0 ops st cl tk S a w)
    (hn : ∀ a w, DI Mine G h0 w0 ops st cl tk (fun j => j = i ∨ S j) a w → next a w) : wpOp P ops Q i next a w := by
  have hstep := hst i o hin ho
  -- nothing that is not bound to this one stands between
  have before : ∀ j oj, j < i → ops[j]? = some oj → ¬ S j → oj.apart ops o = true ∧ compat (cl.getD j 0) (cl.getD i 0) = true := by
    intro j oj hj hoj hnS
    rcases hD.pair j i oj o hj hin hoj ho with hb | hb
    · refine absurd ?_ hnS
      cases hrow : rows[i]? with
      | none => simp [List.getD, hrow] at hb
      | some row =>
        have hb : Nat.testBit row j = true := by simpa [List.getD, hrow] using hb
        exact hD.row i row hrow S o hS ho hpre j hb
    · exact hb
  have after : ∀ j oj, i < j → ops[j]? = some oj → S j → o.apart ops oj = true ∧ compat (cl.getD i 0) (cl.getD j 0) = true := by
    intro j oj hj hoj hSj
    have hjn : j < cl.length := hSn j hSj
    rcases hD.pair i j o oj hj hjn ho hoj with hb | hb
    · refine absurd ?_ hi
      cases hrow : rows[j]? with
      | none => simp [List.getD, hrow] at hb
      | some row =>
        have hb : Nat.testBit row i = true := by simpa [List.getD, hrow] using hb
        exact hD.row j row hrow S oj hS hoj (fun e he hbi => hS j oj hSj hoj e he hbi) i hb
    · exact hb
  have dst_of : ∀ {j t : Nat}, dstAt ops j = some t → ∃ oj, ops[j]? = some oj ∧ oj.dst = some t := by
    intro j t hd
    unfold dstAt at hd
    cases hj : ops[j]? with
    | none => rw [hj] at hd; cases hd
    | some oj => rw [hj] at hd; exact ⟨oj, rfl, hd⟩
  obtain ⟨c, m, G', T', hr, hcut, hclen, hslots, hfz, hlc, hh, hstp, hti⟩ := h
  have hprlen : (pr i).tm.length = c.length := by rw [hstep.len, steps_len hsz hst i (by omega), hclen]
  have hlook : ∀ t, t ∈ o.looksAt ops → Req (c.getD t tu) ((pr i).tm.getD t tu) := by
    intro t ht
    obtain ⟨mt, ⟨hmt, hc1, hc2⟩, hreq⟩ := hslots t
    refine hreq.trans ((slot_between hsz hst hmt (by omega) ?_ ?_).trans (hstep.req t))
    · intro j h1 h2 hd
      obtain ⟨oj, hoj, hdj⟩ := dst_of hd
      have := (before j oj h2 hoj (hc2 j h1 hd)).1
      exact (Oper.apart_spec this).1 t hdj ht
    · intro j h1 h2 hd
      obtain ⟨oj, hoj, hdj⟩ := dst_of hd
      have hSj := hc1 j h2 hd
      rcases Nat.lt_or_ge i j with hlt | hge
      · have := (after j oj hlt hoj hSj).1
        exact (Oper.apart_spec this).2.2 t hdj ht
      · have : j = i := by omega
        subst this; exact hi hSj
  have hr1 := seen_rel (l := o.looksAt ops) (p := (pr i).tm) hprlen hr (fun t ht => hlook t (by simpa using ht))
  have hseq : ∀ t, Req ((seen (o.looksAt ops) c (pr i).tm).getD t tu) (c.getD t tu) := by
    intro t
    rw [seen_getD hprlen]
    split
    · rename_i hc
      exact (hlook t (by simpa using hc)).symm
    · exact .refl _
  have hev : EvEq tt o (pr i) ⟨seen (o.looksAt ops) c (pr i).tm, (st m).hp, T'⟩ := by
    intro ty z hz
    cases z with
    | tmp t =>
      have : t ∈ o.looksAt ops := List.mem_append_left _ (List.mem_filterMap.2 ⟨.tmp t, by simpa using hz, rfl⟩)
      show (seen (o.looksAt ops) c (pr i).tm).getD t tu = (pr i).tm.getD t tu
      rw [seen_getD hprlen, if_pos (by simpa using this)]
    | _ => rfl
  have hwant : Region.wanted o (yielded ops a.tmps) = ws i := by
    unfold Region.wanted
    cases hg : o.guard with
    | none => exact (hstep.free hg).symm
    | some jw =>
      obtain ⟨j, want⟩ := jw
      obtain ⟨t, b, h1, h2⟩ := hstep.guard j want hg
      have ht : t ∈ o.looksAt ops := List.mem_append_right _ (by simp [hg, h1])
      have h4 := (hlook t ht _ _).1 (rel_getD hr t)
      rcases h2 with ⟨h2, h3⟩ | ⟨h2, h3⟩
      · rw [h2] at h4
        have h5 : a.tmps.getD t Go.undef = .bool b := by
          generalize a.tmps.getD t Go.undef = u at h4
          cases b <;> cases h4 with
          | v _ _ h4 => cases h4; rfl
        dsimp only
        rw [yielded_of h1 h5, h3]
        cases b <;> cases want <;> rfl
      · rw [h2] at h4
        have h5 : a.tmps.getD t Go.undef = Go.undef := by
          generalize a.tmps.getD t Go.undef = u at h4
          cases h4 with
          | v _ _ h4 =>
            cases h4 with
            | tup _ vs hl h => cases vs with
              | nil => rfl
              | cons _ _ => simp at hl
        dsimp only
        rw [yielded_gone h1 h5, h3]
        cases want <;> rfl
  -- the slots behind it
  have slots : ∀ (c' : List TV), (∀ t, c'.getD t tu = match o.dst with
      | some d => if d = t ∧ d < c.length then x i else (seen (o.looksAt ops) c (pr i).tm).getD t tu
      | none => (seen (o.looksAt ops) c (pr i).tm).getD t tu) →
      ∀ t, ∃ m, Cut cl.length (fun j => j = i ∨ S j) (fun j => dstAt ops j = some t) m ∧ Req (c'.getD t tu) ((st m).tm.getD t tu) := by
    intro c' hc' t
    by_cases hd : o.dst = some t
    · refine ⟨i + 1, ⟨hin, fun j hj hdj => ?_, fun j hj hdj => ?_⟩, ?_⟩
      · by_cases hji : j = i
        · exact .inl hji
        · refine .inr (Classical.byContradiction fun hnS => ?_)
          obtain ⟨oj, hoj, hdj⟩ := dst_of hdj
          exact (Oper.apart_spec (before j oj (by omega) hoj hnS).1).2.1 t hdj hd
      · rintro (e | hSj)
        · omega
        · obtain ⟨oj, hoj, hdj⟩ := dst_of hdj
          exact (Oper.apart_spec (after j oj (by omega) hoj hSj).1).2.1 t hd hdj
      · rw [hc', hd, hstep.tm, hd]
        dsimp only
        rw [getD_set, hprlen]
        split
        · exact .refl _
        · rename_i hnl
          have hge : c.length ≤ t := by
            rcases Nat.lt_or_ge t c.length with h | h
            · exact absurd ⟨rfl, h⟩ hnl
            · exact h
          have h1 : (seen (o.looksAt ops) c (pr i).tm).getD t tu = tu := by
            simp only [List.getD]; rw [List.getElem?_eq_none (by rw [seen_length]; exact hge)]; rfl
          have h2 : (pr i).tm.getD t tu = tu := by simp only [List.getD]; rw [List.getElem?_eq_none (by omega)]; rfl
          rw [h1, h2]; exact .refl _
    · obtain ⟨mt, ⟨hmt, hc1, hc2⟩, hreq⟩ := hslots t
      refine ⟨mt, ⟨hmt, fun j hj hdj => .inr (hc1 j hj hdj), fun j hj hdj => ?_⟩, ?_⟩
      · rintro (e | hSj)
        · subst e
          obtain ⟨oj, hoj, hdj⟩ := dst_of hdj
          rw [ho] at hoj; cases hoj
          exact hd hdj
        · exact hc2 j hj hdj hSj
      · have : c'.getD t tu = (seen (o.looksAt ops) c (pr i).tm).getD t tu := by
          rw [hc']
          split
          · rename_i d e
            rw [if_neg]
            rintro ⟨rfl, _⟩
            exact hd e
          · rfl
        rw [this]
        exact (hseq t).trans hreq
  -- the tokens behind an operation that appends nothing
  have tiSame : cl.getD i 0 ≠ 4 → ∀ {G1 : Gh}, Fz G' G1 → TokI st tk cl cl.length (fun j => j = i ∨ S j) T' G1 := by
    intro hne G1 hf
    rcases hti with hA | ⟨b1, b2, ⟨y, b3⟩, b4, b5⟩
    · exact .inl hA
    · refine .inr ⟨b1, fun t ⟨h1, h2⟩ => b2 t ⟨h1.imp id fun ⟨j, p, q, r, e⟩ => ⟨j, p, q, ?_, e⟩, fun j p q r => h2 j p q (.inr r)⟩, ⟨y, hf.tok _ _ b3⟩, fun j p q r => ?_, b5⟩
      · rcases r with rfl | r
        · exact absurd q hne
        · exact r
      · exact hf.hole _ _ y (steps_tn_lt hsz hst p (Nat.le_refl _) q) b3 (b4 j p q fun h => r (.inr h))
  have cutSame : isEf (cl.getD i 0) = false → Cut cl.length (fun j => j = i ∨ S j) (fun j => isEf (cl.getD j 0) = true) m := by
    intro hne
    refine ⟨hcut.1, fun j h1 h2 => .inr (hcut.2.1 j h1 h2), fun j h1 h2 => ?_⟩
    rintro (e | hSj)
    · subst e; exact absurd h2 (by simp only [hne]; decide)
    · exact hcut.2.2 j h1 h2 hSj
  have putget : ∀ (v : TV) (t : Nat), ((match o.dst with
      | some d => (seen (o.looksAt ops) c (pr i).tm).set d v
      | none => seen (o.looksAt ops) c (pr i).tm) : List TV).getD t tu = match o.dst with
      | some d => if d = t ∧ d < c.length then v else (seen (o.looksAt ops) c (pr i).tm).getD t tu
      | none => (seen (o.looksAt ops) c (pr i).tm).getD t tu := by
    intro v t
    split
    · rw [getD_set, seen_length]
    · rfl
  unfold wpOp
  rw [ho]
  dsimp only
  rw [hwant]
  cases hw : ws i with
  | false =>
    rw [if_neg Bool.false_ne_true]
    obtain ⟨hx, hc0⟩ := hstep.skip hw
    have hrel := hr1.put (d := o.dst) (x := tg) (y := Go.undef) (s' := ⟨seen (o.looksAt ops) c (pr i).tm, (st m).hp, T'⟩) TR.gone rfl hr1.inv (.refl _) (.refl _ _)
    refine hn _ _ ⟨(match o.dst with
      | some d => (seen (o.looksAt ops) c (pr i).tm).set d tg
      | none => seen (o.looksAt ops) c (pr i).tm), m, G', T', ?_, cutSame (by rw [hc0]; rfl), ?_, slots _ (by rw [hx]; exact putget tg), hfz, hlc, hh, hstp, tiSame (by rw [hc0]; decide) (.refl _)⟩
    · cases hd : o.dst <;> rw [hd] at hrel <;> exact hrel
    · split <;> simp [seen_length, hclen]
  | true =>
    rw [if_pos rfl]
    refine .inl ?_
    have heapAt : (cl.getD i 0 = 1 ∨ isEf (cl.getD i 0) = true) → (st m).hp = (st i).hp := by
      intro hne
      have no1 : ∀ c, isEf c = true → compat c (cl.getD i 0) = false := by
        intro c hc
        unfold compat
        rcases hne with e | e
        · rw [hc, e]; cases h5 : Nat.beq c 5
          · rfl
          · have := Nat.eq_of_beq_eq_true h5; subst this; cases hc
        · rw [hc, e]; cases h5 : Nat.beq c 5
          · rfl
          · have := Nat.eq_of_beq_eq_true h5; subst this; cases hc
      have no2 : ∀ c, isEf c = true → compat (cl.getD i 0) c = false := by
        intro c hc
        unfold compat
        rcases hne with e | e
        · rw [hc, e]; cases Nat.beq c 6 <;> rfl
        · rw [hc, e]
          cases h5 : Nat.beq (cl.getD i 0) 5
          · rfl
          · have := Nat.eq_of_beq_eq_true h5; rw [this] at e; cases e
      refine heap_between hsz hst hcut.1 (by omega) (fun j h1 h2 => ?_) (fun j h1 h2 => ?_)
      · cases h3 : isEf (cl.getD j 0) with
        | false => rfl
        | true =>
          have hjn : j < cl.length := by omega
          have := (before j _ h2 (Array.getElem?_eq_getElem (show j < ops.size by omega)) (hcut.2.2 j h1 h3)).2
          rw [no1 _ h3] at this
          cases this
      · cases h3 : isEf (cl.getD j 0) with
        | false => rfl
        | true =>
          have hSj := hcut.2.1 j h2 h3
          have hji : j ≠ i := fun e => hi (e ▸ hSj)
          have hjn : j < cl.length := by have := hcut.1; omega
          have := (after j _ (by omega) (Array.getElem?_eq_getElem (show j < ops.size by omega)) hSj).2
          rw [no2 _ h3] at this
          cases this
    have heapGrown : cl.getD i 0 = 5 → Grown (st i).hp (st m).hp := by
      intro h5
      have hni : isEf (cl.getD i 0) = false := by rw [h5]; rfl
      rcases Nat.le_total m i with h | h
      · have : (st m).hp = (st i).hp := by
          refine heap_between hsz hst hcut.1 (by omega) (fun j h1 h2 => ?_) (fun j h1 h2 => by omega)
          cases h3 : isEf (cl.getD j 0) with
          | false => rfl
          | true =>
            have hjn : j < cl.length := by omega
            have := (before j _ h2 (Array.getElem?_eq_getElem (show j < ops.size by omega)) (hcut.2.2 j h1 h3)).2
            rw [h5] at this
            unfold compat at this
            rw [h3] at this
            cases h5' : Nat.beq (cl.getD j 0) 5
            · rw [h5'] at this; cases this
            · have e := Nat.eq_of_beq_eq_true h5'; rw [e] at h3; cases h3
        rw [this]; exact .refl _
      · obtain ⟨k, rfl⟩ := Nat.le.dest h
        refine steps_grown hsz hst k hcut.1 fun j h1 h2 h3 => ?_
        have hSj := hcut.2.1 j h2 h3
        have hji : j ≠ i := fun e => hi (e ▸ hSj)
        have hjn : j < cl.length := by have := hcut.1; omega
        have := (after j _ (by omega) (Array.getElem?_eq_getElem (show j < ops.size by omega)) hSj).2
        rw [h5] at this
        unfold compat at this
        rw [h3] at this
        cases h6 : Nat.beq (cl.getD j 0) 6
        · rw [h6] at this; cases this
        · exact Nat.eq_of_beq_eq_true h6
    have hlen' : ∀ (v : TV), ((match o.dst with
      | some d => (seen (o.looksAt ops) c (pr i).tm).set d v
      | none => seen (o.looksAt ops) c (pr i).tm) : List TV).length = (st 0).tm.length := by
      intro v
      split <;> simp [seen_length, hclen]
    by_cases hc4 : cl.getD i 0 = 4
    · obtain ⟨z, cd, l0, cd', l, hz, hzv, hown, hx, hT1, hrun4⟩ := hstep.app hc4
      rcases hti with ⟨hA, _⟩ | ⟨b1, b2, ⟨y, b3⟩, b4, b5⟩
      · exact absurd hc4 (hA i hin)
      have htl := steps_tl hsz hst htl0
      -- the list is ours
      have hown' : (tk i).own T'.l := by
        cases hk : tk i with
        | no => rw [hk] at hown; exact hown
        | exact => trivial
        | tk k =>
          rw [hk] at hown hzv
          obtain ⟨m1, m2⟩ := (htl i (by omega)).2 k hown
          have htr := hr1.ev (tt := tt) 0 z
          rw [hev 0 z hz, hzv] at htr
          have hsome : ∃ q, G'.tok k = some q := by
            generalize a.eval z = u at htr
            cases htr with
            | v _ _ htr => cases htr with
              | list _ _ _ _ _ _ _ _ _ _ _ _ _ ht => obtain ⟨bo, e, _⟩ := ht; exact ⟨_, e⟩
          obtain ⟨q, hq⟩ := hsome
          have k1 : k ∈ (st 0).T.l ∨ ∃ j, j < cl.length ∧ cl.getD j 0 = 4 ∧ S j ∧ k = (st j).T.n := by
            rcases m1 with m1 | ⟨j, p1, p2, p3, p4⟩
            · exact .inl m1
            · refine .inr ⟨j, p1, p2, Classical.byContradiction fun hnS => ?_, p4⟩
              rw [p4, b4 j p1 p2 hnS] at hq; cases hq
          have k2 : ∀ j, j < cl.length → cl.getD j 0 = 4 → S j → tk j ≠ .tk k := by
            intro j p1 p2 p3
            rcases Nat.lt_trichotomy j i with h' | h' | h'
            · exact m2 j p1 p2 h'
            · subst h'; exact absurd p3 hi
            · intro e
              have hoj : ops[j]? = some ops[j] := Array.getElem?_eq_getElem (by omega)
              obtain ⟨_, _, _, _, _, _, _, hownj, _, _, _⟩ := (hst j _ (by omega) hoj).app p2
              rw [e] at hownj
              exact ((htl j (by omega)).2 k hownj).2 i hin hc4 h' hk
          exact b2 k ⟨k1, k2⟩
      have hop := hrun4 ⟨seen (o.looksAt ops) c (pr i).tm, (st m).hp, T'⟩
        (fun y s' => y = .v (.list cd' l (.tk T'.n)) ∧ s' = ⟨seen (o.looksAt ops) c (pr i).tm, (st m).hp, ⟨T'.n + 1, T'.n :: (tk i).drop T'.l⟩⟩) hev hown' ⟨rfl, rfl⟩
      refine aop_sound htt hcs hop hr1 ?_
      rintro y' s' G1 a' w' ⟨rfl, rfl⟩ _ hrel hf hl hlen hs
      have hni : (st i).T.n < (st cl.length).T.n := steps_tn_lt hsz hst hin (Nat.le_refl _) hc4
      have hnone : G1.tok (st i).T.n = none := hf.hole _ _ y hni b3 (b4 i hin hc4 hi)
      have hinv1 : Inv Mine G1 (st m).hp ⟨T'.n + 1, T'.n :: (tk i).drop T'.l⟩ w' := by
        have := hrel.inv
        cases hd : o.dst <;> rw [hd] at this <;> exact this
      have hfresh : T'.n ∉ (tk i).drop T'.l := by
        intro hm
        obtain ⟨_, _, _, e, _⟩ := hr.inv.toks T'.n (mem_drop.1 hm).1
        rw [hr.inv.tfin T'.n (Nat.le_refl _)] at e; cases e
      have hf2 := copy_f0 (k := T'.n) hnone
      refine hn _ _ ⟨(match o.dst with
        | some d => (seen (o.looksAt ops) c (pr i).tm).set d (x i)
        | none => seen (o.looksAt ops) c (pr i).tm), m, G1.copyTok T'.n (st i).T.n, ⟨T'.n + 1, (st i).T.n :: (tk i).drop T'.l⟩, ?_, cutSame (by rw [hc4]; rfl), hlen' _, slots _ (putget _), ?_, ?_, hh, hstp.trans hs, ?_⟩
      · refine ⟨?_, fun t y hy => ?_, ?_, hinv1.copyTok hnone (by omega) hfresh⟩
        · have := hrel.len
          cases hd : o.dst <;> rw [hd] at this <;> simpa [St.put] using this
        · -- the slots
          have hlb : Lb (st m).hp.length G1 := hinv1.lb
          cases hd : o.dst with
          | none =>
            rw [hd] at hy hrel
            exact (hrel.tm t y hy).mono hlb hf2 (.refl _ _)
          | some d =>
            rw [hd] at hy hrel
            by_cases hdt : d = t
            · subst hdt
              have hdl : d < (seen (o.looksAt ops) c (pr i).tm).length := by
                have := (List.getElem?_eq_some_iff.1 hy).1; simpa using this
              have hy1 : y = x i := by
                rw [List.getElem?_set_self hdl] at hy; cases hy; rfl
              have h1 := hrel.tm d (.v (.list cd' l (.tk T'.n))) (by
                show ((seen (o.looksAt ops) c (pr i).tm).set d _)[d]? = _
                rw [List.getElem?_set_self hdl])
              rw [hy1, hx]
              generalize a'.tmps.getD d Go.undef = u at h1
              cases h1 with
              | v _ _ h1 => cases h1 with
                | list _ _ _ aa cap b oo vals ha hcap hcc ho' hv ht =>
                  obtain ⟨bo, e1, e2⟩ := ht
                  exact .v _ _ (.list cd' l _ aa cap b oo vals ha hcap hcc ho' (fun j q hq => (hv j q hq).mono hf2) ⟨bo, by simp [Gh.copyTok, e1], e2⟩)
            · refine (hrel.tm t y ?_).mono hlb hf2 (.refl _ _)
              show ((seen (o.looksAt ops) c (pr i).tm).set d _)[t]? = _
              rw [List.getElem?_set_ne hdt] at hy ⊢
              exact hy
        · have := hrel.defers
          exact this
      · have hfz1 := hfz.trans hf
        refine ⟨hfz1.cell, hfz1.mp, fun t q hq => hf2.tok _ _ (hfz1.tok _ _ hq), fun t t' q hlt hq hno => ?_⟩
        have ht' : t' < (st 0).T.n := by
          rcases Nat.lt_or_ge t' (st 0).T.n with h' | h'
          · exact h'
          · rw [hbase t' h'] at hq; cases hq
        have h0i := steps_tn hsz hst (m := 0) i (by omega)
        rw [Nat.zero_add] at h0i
        simp only [Gh.copyTok]
        rw [if_neg (by omega)]
        exact hfz1.hole t t' q hlt hq hno
      · have := hlc.trans (hl.mono hh)
        exact this
      · refine .inr ⟨Nat.lt_succ_of_lt b1, fun t ⟨h1, h2⟩ => ?_, ⟨y, ?_⟩, fun j p q r => ?_, b5⟩
        · by_cases hti : t = (st i).T.n
          · subst hti; exact List.mem_cons_self ..
          · refine List.mem_cons_of_mem _ (mem_drop.2 ⟨b2 t ⟨h1.imp id fun ⟨j, p1, p2, p3, p4⟩ => ⟨j, p1, p2, ?_, p4⟩, fun j p1 p2 p3 => h2 j p1 p2 (.inr p3)⟩, h2 i hin hc4 (.inl rfl)⟩)
            rcases p3 with rfl | p3
            · exact absurd p4 hti
            · exact p3
        · simp only [Gh.copyTok]
          rw [if_neg (by omega)]; exact hf.tok _ _ b3
        · have hji : j ≠ i := fun e => r (.inl e)
          have hne : (st j).T.n ≠ (st i).T.n := by
            rcases Nat.lt_or_gt_of_ne hji with h' | h'
            · have := steps_tn_lt hsz hst h' (by omega) q; omega
            · have := steps_tn_lt hsz hst h' (by omega) hc4; omega
          simp only [Gh.copyTok]
          rw [if_neg hne]
          exact hf.hole _ _ y (steps_tn_lt hsz hst p (Nat.le_refl _) q) b3 (b4 j p q fun h => r (.inr h))
    cases hc2 : isEf (cl.getD i 0) with
    | true =>
      have e1 := heapAt (.inr hc2)
      have noE : ∀ c c', isEf c = true → isEf c' = true → compat c c' = false := by
        intro c c' h h'
        unfold compat
        rw [h, h']
        cases h5 : Nat.beq c 5
        · rfl
        · have := Nat.eq_of_beq_eq_true h5; rw [this] at h; cases h
      have hop := hstep.run hw hc4 ⟨seen (o.looksAt ops) c (pr i).tm, (st m).hp, T'⟩
        (fun y s' => y = x i ∧ s' = ⟨seen (o.looksAt ops) c (pr i).tm, (st (i + 1)).hp, T'⟩) hev (.inr (.inr ⟨e1, rfl, rfl⟩))
      refine aop_sound htt hcs hop hr1 ?_
      rintro y s' G1 a' w' ⟨rfl, rfl⟩ _ hrel hf hl hlen hs
      refine hn _ _ ⟨(match o.dst with
        | some d => (seen (o.looksAt ops) c (pr i).tm).set d (x i)
        | none => seen (o.looksAt ops) c (pr i).tm), i + 1, G1, T', ?_, ⟨hin, fun j h1 h2 => ?_, fun j h1 h2 => ?_⟩, hlen' _, slots _ (putget _), hfz.trans hf, hlc.trans (hl.mono hh), Nat.le_trans hh hlen, hstp.trans hs, tiSame hc4 hf⟩
      · cases hd : o.dst <;> rw [hd] at hrel <;> exact hrel
      · by_cases hji : j = i
        · exact .inl hji
        · refine .inr (Classical.byContradiction fun hnS => ?_)
          have := (before j _ (by omega) (Array.getElem?_eq_getElem (by omega)) hnS).2
          rw [noE _ _ h2 hc2] at this
          cases this
      · rintro (e | hSj)
        · omega
        · have hjn : j < cl.length := by
            rcases Nat.lt_or_ge j cl.length with h | h
            · exact h
            · have := hcut.2.2 j (by have := hcut.1; omega) h2 hSj
              exact this.elim
          have := (after j _ (by omega) (Array.getElem?_eq_getElem (show j < ops.size by omega)) hSj).2
          rw [noE _ _ hc2 h2] at this
          cases this
    | false =>
      have hop : aop tt call (mds.at rid i) o ⟨seen (o.looksAt ops) c (pr i).tm, (st m).hp, T'⟩
        (fun y s' => y = x i ∧ s' = ⟨seen (o.looksAt ops) c (pr i).tm, (st m).hp, T'⟩) := by
        by_cases hc0 : cl.getD i 0 = 0
        · exact hstep.run hw hc4 _ _ hev (.inl ⟨hc0, rfl, rfl⟩)
        · by_cases hc1 : cl.getD i 0 = 1
          · have e1 := heapAt (.inl hc1)
            have e3 := hstep.calm hc2
            exact hstep.run hw hc4 _ _ hev (.inr (.inr ⟨e1, rfl, by rw [e3, e1]⟩))
          · by_cases hc5 : cl.getD i 0 = 5
            · exact hstep.run hw hc4 _ _ hev (.inr (.inl ⟨hc5, heapGrown hc5, rfl, rfl⟩))
            · rcases hstep.few with e | e | e | e
              · have : cl.getD i 0 = 2 := by omega
                rw [this] at hc2; cases hc2
              · omega
              · omega
              · rw [e] at hc2; cases hc2
      refine aop_sound htt hcs hop hr1 ?_
      rintro y s' G1 a' w' ⟨rfl, rfl⟩ _ hrel hf hl hlen hs
      refine hn _ _ ⟨(match o.dst with
        | some d => (seen (o.looksAt ops) c (pr i).tm).set d (x i)
        | none => seen (o.looksAt ops) c (pr i).tm), m, G1, T', ?_, cutSame hc2, hlen' _, slots _ (putget _), hfz.trans hf, hlc.trans (hl.mono hh), hh, hstp.trans hs, tiSame hc4 hf⟩
      cases hd : o.dst <;> rw [hd] at hrel <;> exact hrel

end
end Go.Proofs.Ytaaedebknacheaa.AB

set_option linter.unusedVariables false
set_option linter.unusedSimpArgs false
namespace Go.Proofs.Ytaaedebknacheaa.AB
open Go

theorem Inv.world {Mine : Mn} {G : Gh} {hp : Hp} {T : Toks} {w w' : World} (h : w'.heap = w.heap) (hi : Inv Mine G hp T w) : Inv Mine G hp T w' := hi.heap h

theorem has4_false : ∀ (l : List Nat), has4 l = false ↔ ∀ c ∈ l, c ≠ 4
  | [] => by simp [has4]
  | c :: l => by
    unfold has4
    cases h : Nat.beq c 4 with
    | true =>
      have := Nat.eq_of_beq_eq_true h
      subst this
      simp
    | false =>
      have h' : c ≠ 4 := fun e => by subst e; cases h
      simp only [has4_false l, List.mem_cons, forall_eq_or_imp]
      exact ⟨fun k => ⟨h', k⟩, fun k => k.2⟩

theorem nFalse_count : ∀ (l : List Bool) (n : Nat), n ≤ l.length → (∀ k, k < n → l[k]? = some true) → (∀ k, n ≤ k → k < l.length → l[k]? = some false) → n + nFalse l = l.length
  | [], n, h, _, _ => by simp at h; subst h; rfl
  | b :: l, 0, _, _, h2 => by
    have := h2 0 (Nat.le_refl _) (by simp)
    simp at this
    subst this
    have := nFalse_count l 0 (Nat.zero_le _) (fun k hk => (Nat.not_lt_zero _ hk).elim) (fun k _ hk => by have := h2 (k + 1) (by omega) (by simpa using hk); simpa using this)
    simp only [nFalse, List.length_cons]
    omega
  | b :: l, n + 1, h, h1, h2 => by
    have := h1 0 (by omega)
    simp at this
    subst this
    have := nFalse_count l n (by simpa using h) (fun k hk => by have := h1 (k + 1) (by omega); simpa using this) (fun k hk hk2 => by have := h2 (k + 1) (by omega) (by simpa using hk2); simpa using this)
    simp only [nFalse, List.length_cons]
    omega

section
variable {P : Program} {tt : TT} {Mine : Mn} {G : Gh} {s : St} {a : Act} {w : World} {call : CallP} {mds : Mds} {rid h0 : Nat} {ops : Array Oper} {K : St → Prop}
  {st pr : Nat → St} {x : Nat → TV} {ws : Nat → Bool} {cl rows : List Nat} {tk : Nat → Tok}

theorem list_mono {ops : Array Oper} {Q Q' : Exit → Act → World → Prop} (h : ∀ e a w, Q e a w → Q' e a w) : ∀ (l : List Oper) (a : Act) (w : World), wpList P ops Q l a w → wpList P ops Q' l a w
  | [], a, w, hw => h _ _ _ hw
  | o :: l, a, w, hw => by
    unfold wpList at hw ⊢
    split
    · rename_i hwt
      rw [if_pos hwt] at hw
      rcases hw with hw | ⟨h1, a0, w0, h2⟩
      · exact .inl (oper_monoQ (fun a w hh => list_mono h l a w hh) h hw)
      · exact .inr ⟨h1, a0, w0, h _ _ _ h2⟩
    · rename_i hwt
      rw [if_neg hwt] at hw
      exact list_mono h l _ _ hw

/-- what stands behind all ahead of it, in its order -/
theorem tail_any {b : Nat} {Q : Exit → Act → World → Prop} (hT : TailS ops b) : ∀ (fuel j : Nat) (listed : Array Bool) (a : Act) (w : World), b ≤ j → j + fuel = ops.size → listed.size = ops.size → (∀ k, Lst listed k ↔ k < j) →
    Closed ops (Lst listed) → wpList P ops Q (ops.toList.drop j) a w → wpAny P .any ops Q fuel listed a w := by
  intro fuel
  induction fuel with
  | zero =>
    intro j listed a w hb hj hsz hl hS hw
    have hd : ops.toList.drop j = [] := by rw [List.drop_eq_nil_iff]; simp; omega
    rw [hd] at hw
    refine ⟨?_, hw⟩
    cases hr : Region.ready .any ops listed with
    | nil => rfl
    | cons i r =>
      have hm : i ∈ Region.ready .any ops listed := by rw [hr]; exact List.mem_cons_self ..
      rw [mem_ready] at hm
      obtain ⟨h1, o, ho, _⟩ := hm
      have hi := (Array.getElem?_eq_some_iff.1 ho).1
      have := (hl i).2 (by omega)
      unfold Lst at this
      have hi' : i < listed.size := by omega
      simp [Array.getD_eq_getD_getElem?, hi'] at this h1
      rw [this] at h1; cases h1
  | succ fuel ih =>
    intro j listed a w hb hj hsz hl hS hw
    have hjs : j < ops.size := by omega
    have hoj : ops[j]? = some ops[j] := Array.getElem?_eq_getElem hjs
    refine ⟨fun hnil => ?_, fun i hm => ?_⟩
    · exfalso
      have hnl : ¬ Lst listed j := fun h => absurd ((hl j).1 h) (Nat.lt_irrefl _)
      have : j ∈ Region.ready .any ops listed := by
        rw [mem_ready]
        refine ⟨?_, _, hoj, fun e he hbe => ?_⟩
        · unfold Lst at hnl
          have hj' : j < listed.size := by omega
          simp [Array.getD_eq_getD_getElem?, hj'] at hnl ⊢
          exact hnl
        · exact (hl e.on).2 (hT.edge j _ hb hoj e he hbe)
      rw [hnil] at this
      cases this
    · rw [mem_ready] at hm
      obtain ⟨h1, o, ho, hpre⟩ := hm
      have hi := (Array.getElem?_eq_some_iff.1 ho).1
      have hi' : i < listed.size := by omega
      have hnS : ¬ Lst listed i := by
        unfold Lst
        simp [Array.getD_eq_getD_getElem?, hi'] at h1 ⊢
        exact h1
      have hij : i = j := by
        have hge : j ≤ i := Nat.le_of_not_lt fun h => hnS ((hl i).2 h)
        rcases Nat.lt_or_ge j i with hlt | hle
        · have := hT.all i o (by omega) ho _ hS hpre j hlt
          exact absurd ((hl j).1 this) (Nat.lt_irrefl _)
        · omega
      subst hij
      rw [hoj] at ho; cases ho
      have hdrop : ops.toList.drop i = ops[i] :: ops.toList.drop (i + 1) := by
        rw [List.drop_eq_getElem_cons (by simpa using hjs)]; simp
      rw [hdrop] at hw
      have next : ∀ a w, wpList P ops Q (ops.toList.drop (i + 1)) a w → wpAny P .any ops Q fuel (listed.setIfInBounds i true) a w := by
        intro a w hw
        refine ih (i + 1) _ a w (by omega) (by omega) (by simpa using hsz) (fun k => ?_) ?_ hw
        · rw [lst_set hi', hl k]; omega
        · intro k o' hk ho' e he hbe
          have hk := (lst_set hi').1 hk
          refine (lst_set hi').2 ?_
          rcases hk with rfl | hk
          · rw [hoj] at ho'; cases ho'
            exact .inr (hpre e he hbe)
          · exact .inr (hS k o' hk ho' e he hbe)
      unfold wpList at hw
      unfold wpOp
      rw [hoj]
      dsimp only
      split
      · rename_i hwt
        rw [if_pos hwt] at hw
        rcases hw with hw | hw
        · exact .inl (oper_monoQ next (fun _ _ _ h => h) hw)
        · exact .inr hw
      · rename_i hwt
        rw [if_neg hwt] at hw
        exact next _ _ hw

theorem drawn_any (htt : TTOK P tt) (hcs : CallS P call) (hsz0 : cl.length ≤ ops.size) (hst : Steps tt call mds rid ops st pr x ws cl tk) (hD : DrawS ops cl rows cl.length) (hT : TailS ops cl.length) {w0 : World}
    (hKA : (∀ j, j < cl.length → cl.getD j 0 ≠ 4) → awpL tt call mds rid ops cl.length (ops.toList.drop cl.length) K (st cl.length))
    (hKB : (¬ ∀ j, j < cl.length → cl.getD j 0 ≠ 4) → ∀ m, (st cl.length).T.n ≤ m → awpL tt call mds rid ops cl.length (ops.toList.drop cl.length) K { (st cl.length) with T := ⟨m, (st cl.length).T.l⟩ })
    (hbase : ∀ t, (st 0).T.n ≤ t → G.tok t = none) (htl0 : ∀ t ∈ (st 0).T.l, t < (st 0).T.n) :
    ∀ (fuel : Nat) (listed : Array Bool) (a : Act) (w : World), nFalse listed.toList = fuel → listed.size = ops.size → (∀ j, Lst listed j → j < cl.length) → Closed ops (Lst listed) → DI Mine G h0 w0 ops st cl tk (Lst listed) a w →
      wpAny P .any ops (Lift Mine G h0 w0 (seqK K (fun _ _ => False))) fuel listed a w := by
  intro fuel
  -- all of the drawn part is listed
  have done : ∀ (fuel : Nat) (listed : Array Bool) (a : Act) (w : World), nFalse listed.toList = fuel → listed.size = ops.size → (∀ j, Lst listed j → j < cl.length) → Closed ops (Lst listed) → (∀ i, i < cl.length → Lst listed i) → DI Mine G h0 w0 ops st cl tk (Lst listed) a w →
      wpAny P .any ops (Lift Mine G h0 w0 (seqK K (fun _ _ => False))) fuel listed a w := by
    rintro fuel listed a w hn hsz hSn hS hall ⟨c, m, G', T', hr, hcut, hclen, hslots, hfz, hlc, hh, hstp, hti⟩
    have hb := heap_between hsz0 hst hcut.1 (Nat.le_refl _) (fun j h1 h2 => Bool.eq_false_iff.2 fun h3 => hcut.2.2 j h1 h3 (hall j h2)) (fun j h1 h2 => by have := hcut.1; omega)
    have hlen : (st cl.length).tm.length = a.tmps.size := by rw [← hr.len, steps_len hsz0 hst _ (Nat.le_refl _), ← hclen]
    have htm : ∀ t y, (st cl.length).tm[t]? = some y → TR G' y (a.tmps.getD t Go.undef) := fun t y hy => by
      obtain ⟨mt, hct, hreq⟩ := hslots t
      have hbt := slot_between hsz0 hst (t := t) hct.1 (Nat.le_refl _) (fun j h1 h2 h3 => hct.2.2 j h1 h3 (hall j h2)) (fun j h1 h2 => by have := hct.1; omega)
      have hy' : (st cl.length).tm.getD t tu = y := by simp only [List.getD]; rw [hy]; rfl
      rw [← hy']
      exact (hbt _ _).1 ((hreq _ _).1 (rel_getD hr t))
    have hfuel : cl.length + fuel = ops.size := by
      have := nFalse_count listed.toList cl.length (by simpa [hsz] using hsz0) (fun k hk => by
        have := hall k hk
        unfold Lst at this
        have hk' : k < listed.size := by omega
        simp [Array.getD_eq_getD_getElem?, hk'] at this
        simpa [hk'] using this) (fun k hk hk2 => by
        have : ¬ Lst listed k := fun h => by have := hSn k h; omega
        unfold Lst at this
        have hk' : k < listed.size := by simpa using hk2
        simp [Array.getD_eq_getD_getElem?, hk'] at this
        simpa [hk'] using this)
      have e : listed.toList.length = ops.size := by simpa using hsz
      omega
    have go : ∀ s1 : St, awpL tt call mds rid ops cl.length (ops.toList.drop cl.length) K s1 → Rel Mine G' s1 a w → h0 ≤ s1.hp.length →
        wpAny P .any ops (Lift Mine G h0 w0 (seqK K (fun _ _ => False))) fuel listed a w := by
      intro s1 hk hrel hh1
      refine tail_any hT fuel cl.length listed a w (Nat.le_refl _) hfuel hsz (fun k => ⟨hSn k, hall k⟩) hS ?_
      exact list_mono (fun e a w h => Lift.of hfz hlc hstp h) _ _ _ (awpL_sound htt hcs _ _ _ _ _ _ hk hrel hh1)
    rcases hti with ⟨hA, hT⟩ | ⟨b1, b2, _, _, b5⟩
    · refine go _ (hKA hA) ⟨hlen, htm, hr.defers, ?_⟩ (by rw [← hb]; exact hh)
      have := hr.inv
      rw [hb, hT, ← steps_T hsz0 hst hA cl.length (Nat.le_refl _)] at this
      exact this
    · refine go _ (hKB b5 T'.n (by omega)) ⟨hlen, htm, hr.defers, ?_⟩ (by show h0 ≤ (st cl.length).hp.length; rw [← hb]; exact hh)
      have := hr.inv
      rw [hb] at this
      refine this.toks' (Nat.le_refl _) fun t ht => b2 t ?_
      obtain ⟨h1, h2⟩ := (steps_tl hsz0 hst htl0 _ (Nat.le_refl _)).2 t ht
      exact ⟨h1.imp id fun ⟨j, p, q, r, e⟩ => ⟨j, p, q, hall j r, e⟩, fun j p q r => h2 j p q p⟩
  induction fuel with
  | zero =>
    intro listed a w hn hsz hSn hS hdi
    refine done _ listed a w hn hsz hSn hS (fun i hi => ?_) hdi
    have := nFalse_zero _ hn i
    have hi' : i < listed.size := by omega
    unfold Lst
    simp [Array.getD_eq_getD_getElem?, hi'] at this ⊢
    exact this
  | succ fuel ih =>
    intro listed a w hn hsz hSn hS hdi
    by_cases hall : ∀ i, i < cl.length → Lst listed i
    · exact done _ listed a w hn hsz hSn hS hall hdi
    refine ⟨fun hnil => ?_, fun i hm => ?_⟩
    · exfalso
      refine hall fun i => ?_
      induction i using Nat.strongRecOn with
      | ind i ih =>
        intro hi
        by_cases hl : listed.getD i true = false
        · have : i ∈ Region.ready .any ops listed := by
            rw [mem_ready]
            refine ⟨hl, ops[i]'(by omega), Array.getElem?_eq_getElem (by omega), fun e he hb => ?_⟩
            have := hD.edge i _ hi (Array.getElem?_eq_getElem (by omega)) e he hb
            exact ih e.on this (by omega)
          rw [hnil] at this
          cases this
        · unfold Lst
          have hi' : i < listed.size := by omega
          simp [Array.getD_eq_getD_getElem?, hi'] at hl ⊢
          exact hl
    rw [mem_ready] at hm
    obtain ⟨h1, o, ho, hpre⟩ := hm
    have hi := (Array.getElem?_eq_some_iff.1 ho).1
    have hi' : i < listed.size := by omega
    have hnS : ¬ Lst listed i := by
      unfold Lst
      simp [Array.getD_eq_getD_getElem?, hi'] at h1 ⊢
      exact h1
    have hin : i < cl.length := by
      rcases Nat.lt_or_ge i cl.length with h | h
      · exact h
      · exfalso
        exact hall fun j hj => hT.all i o h ho _ hS hpre j (by omega)
    have hset : (fun j => Lst (listed.setIfInBounds i true) j) = fun j => j = i ∨ Lst listed j := by
      funext j
      exact propext (lst_set hi')
    refine drawn_step htt hcs hsz0 hst hD hin hSn ho hS hnS hpre hbase htl0 hdi fun a' w' hdi' => ih _ a' w' ?_ (by simpa using hsz) ?_ ?_ ?_
    · have h2 : listed.toList[i]? = some false := by
        have hi'' : i < listed.toList.length := by simpa using hi'
        simp [Array.getD_eq_getD_getElem?, hi'] at h1
        rw [List.getElem?_eq_getElem hi'']
        simpa using h1
      have := nFalse_set _ _ h2
      rw [Array.toList_setIfInBounds]
      omega
    · intro j hj
      rcases (lst_set hi').1 hj with rfl | hj
      · exact hin
      · exact hSn j hj
    · intro k o' hk ho' e he hb
      have hk := (lst_set hi').1 hk
      refine (lst_set hi').2 ?_
      rcases hk with rfl | hk
      · rw [ho] at ho'; cases ho'
        exact .inr (hpre e he hb)
      · exact .inr (hS k o' hk ho' e he hb)
    · show DI Mine G h0 w0 ops st cl tk (fun j => Lst (listed.setIfInBounds i true) j) a' w'
      rw [hset]; exact hdi'

theorem drawn_sound (htt : TTOK P tt) (hcs : CallS P call) (hcd : CallDet call) (hmix : P.follows .mixedOrders = true)
    (h : awpD tt call mds rid ops 0 ops.toList [] K s) (hr : Rel Mine G s a w) (hh : h0 ≤ s.hp.length) :
    (Code.region rid ops true).wp P (Lift Mine G h0 w (seqK K (fun _ _ => False))) a w := by
  obtain ⟨st, pr, x, ws, cl, tk, hs0, hcl, hst, hd, htl, hK⟩ := trace hcd ops.toList 0 [] s h
  obtain ⟨rows, hD⟩ := drawOK_spec (ops := ops) (cl := cl) (by simpa using hd)
  have hcl : cl.length ≤ ops.size := by simpa using hcl
  have htl : cl.length < ops.size → tailOK ops (0 + cl.length) = true := fun h => htl (by simpa using h)
  have hT : TailS ops cl.length := by
    rcases Nat.lt_or_ge cl.length ops.size with h | h
    · exact tailOK_spec (by have := htl h; rwa [Nat.zero_add] at this)
    · exact tailS_end ops h
  have hsteps : Steps tt call mds rid ops st pr x ws cl tk := by
    intro i o hi ho
    have := hst i o hi (by rw [Array.getElem?_toList]; exact ho)
    rwa [Nat.zero_add] at this
  rw [Nat.zero_add] at hK
  have hfalse : ∀ j, ¬ Lst (Array.replicate ops.size false) j := by
    intro j hj
    unfold Lst at hj
    simp [Array.getD_eq_getD_getElem?, Array.getElem?_replicate] at hj
    split at hj <;> simp at hj
  have hw : Stp Mine w { w with drawn := w.drawn + 1 } := ⟨rfl, rfl, rfl, Nat.le_refl _, fun _ _ => rfl⟩
  have h4iff : has4 (cl.reverse ++ []) = false ↔ ∀ j, j < cl.length → cl.getD j 0 ≠ 4 := by
    rw [List.append_nil, has4_false]
    constructor
    · intro h j hj e
      exact h 4 (List.mem_reverse.2 (by rw [← e]; simp [List.getD, hj])) rfl
    · intro h c hc e
      obtain ⟨j, hj, e'⟩ := List.mem_iff_getElem.1 (List.mem_reverse.1 hc)
      exact h j hj (by simp [List.getD, hj, e', e])
  have hKA : (∀ j, j < cl.length → cl.getD j 0 ≠ 4) → awpL tt call mds rid ops cl.length (ops.toList.drop cl.length) K (st cl.length) := fun h4 => by
    rcases hK with ⟨_, hK⟩ | hK
    · exact hK
    · exact hK _ (Nat.le_refl _)
  have hKB : (¬ ∀ j, j < cl.length → cl.getD j 0 ≠ 4) → ∀ m, (st cl.length).T.n ≤ m → awpL tt call mds rid ops cl.length (ops.toList.drop cl.length) K { (st cl.length) with T := ⟨m, (st cl.length).T.l⟩ } := fun h4 => by
    rcases hK with ⟨h, _⟩ | hK
    · exact absurd (h4iff.1 h) h4
    · exact hK
  have hbase : ∀ t, (st 0).T.n ≤ t → G.tok t = none := by rw [hs0]; exact hr.inv.tfin
  have htl0 : ∀ t ∈ (st 0).T.l, t < (st 0).T.n := by
    rw [hs0]
    intro t ht
    obtain ⟨_, _, _, e, _⟩ := hr.inv.toks t ht
    rcases Nat.lt_or_ge t s.T.n with h | h
    · exact h
    · rw [hr.inv.tfin t h] at e; cases e
  have hinv : Inv Mine G s.hp s.T { w with drawn := w.drawn + 1 } := Inv.world (w := w) rfl hr.inv
  refine wp_region_any hmix (drawn_any htt hcs hcl hsteps hD hT hKA hKB hbase htl0 ops.size _ a _ ?_ (by simp) (fun j h => (hfalse j h).elim) ?_ ?_)
  · rw [Array.toList_replicate]; exact nFalse_replicate _
  · intro k o hk; exact (hfalse k hk).elim
  · have hslots : ∀ t, ∃ m, Cut cl.length (Lst (Array.replicate ops.size false)) (fun j => dstAt ops j = some t) m ∧ Req (s.tm.getD t tu) ((st m).tm.getD t tu) :=
      fun t => ⟨0, ⟨Nat.zero_le _, fun j hj => (Nat.not_lt_zero _ hj).elim, fun j _ _ => hfalse j⟩, by rw [hs0]; exact .refl _⟩
    have hcut : Cut cl.length (Lst (Array.replicate ops.size false)) (fun j => isEf (cl.getD j 0) = true) 0 := ⟨Nat.zero_le _, fun j hj => (Nat.not_lt_zero _ hj).elim, fun j _ _ => hfalse j⟩
    by_cases h4 : ∀ j, j < cl.length → cl.getD j 0 ≠ 4
    · refine ⟨s.tm, 0, G, s.T, ?_, hcut, by rw [hs0], hslots, .refl _, .refl _ _, by rw [hs0]; exact hh, hw, .inl ⟨h4, by rw [hs0]⟩⟩
      rw [hs0]
      exact ⟨hr.len, hr.tm, hr.defers, hinv⟩
    · -- a number ahead of all that will be given
      have hN : s.T.n ≤ (st cl.length).T.n := by
        have := steps_tn hcl hsteps (m := 0) cl.length (by omega)
        rw [Nat.zero_add, hs0] at this; exact this
      have hi0 := hinv.toks' hN (l := s.T.l) (fun _ h => h)
      obtain ⟨hi1, hf1, hl1⟩ := hi0.addTok (n := (st cl.length).T.n) (bo := none) (e := 0) (c := 0) rfl (fun b hb => by cases hb)
      have hi2 := hi1.toks' (m := (st cl.length).T.n + 1) (l := s.T.l) (Nat.le_refl _) (fun t h => List.mem_cons_of_mem _ h)
      refine ⟨s.tm, 0, _, ⟨(st cl.length).T.n + 1, s.T.l⟩, ⟨hr.len, fun t y hy => (hr.tm t y hy).mono hr.inv.lb hf1.f0 hl1, hr.defers, by rw [hs0]; exact hi2⟩, hcut, by rw [hs0], hslots, hf1, (fun i hi => hl1 i (Nat.lt_of_lt_of_le hi hh)), by rw [hs0]; exact hh, hw,
        .inr ⟨Nat.lt_succ_self _, fun t ⟨h1, _⟩ => ?_, ⟨_, by simp [Gh.setTok]; rfl⟩, fun j p q _ => ?_, h4⟩⟩
      · rcases h1 with h1 | ⟨j, _, _, h1, _⟩
        · rw [hs0] at h1; exact h1
        · exact (hfalse j h1).elim
      · have h1 := steps_tn_lt hcl hsteps p (Nat.le_refl _) q
        simp only [Gh.setTok]
        rw [if_neg (by omega)]
        refine hbase _ ?_
        have := steps_tn hcl hsteps (m := 0) j (by omega)
        rwa [Nat.zero_add] at this

end
end Go.Proofs.Ytaaedebknacheaa.AB

set_option linter.unusedVariables false
set_option linter.unusedSimpArgs false
namespace Go.Proofs.Ytaaedebknacheaa.AB
open Go

section
variable {P : Program} {tt : TT} {Mine : Mn} {G : Gh} {s : St} {a : Act} {w : World}

theorem VR.nb0 {x : V} {y : Value} (h : VR G x y) : VR G x.nb0 y := by
  cases x <;> first
    | exact h
    | (cases h; exact .bool _)

theorem VR.nb {x : V} {y : Value} (h : VR G x y) : VR G x.nb y := by
  cases x with
  | agg l =>
    cases h with
    | agg _ vs hl ho h => exact .agg _ vs (by simpa using hl) ho (VR.mapP V.nb0 (fun _ _ h => h.nb0) h)
  | _ => exact h.nb0

theorem TR.nb {x : TV} {y : Value} (h : TR G x y) : TR G x.nb y := by
  cases x with
  | v x =>
    cases h with
    | v _ _ h => exact .v _ _ h.nb
  | _ => exact h

theorem nb_cells (x : V) : x.nb.cells = x.cells.map V.nb0 := by
  cases x <;> rfl

theorem tnb_cells (x : TV) (j : Nat) (q : TV) (h : x.nb.cells[j]? = some q) : ∃ q0, x.cells[j]? = some q0 ∧ ∀ u, TR G q0 u → TR G q u := by
  cases x with
  | v x =>
    simp only [TV.nb, TV.cells, nb_cells, List.getElem?_map] at h ⊢
    cases hx : x.cells[j]? with
    | none => rw [hx] at h; cases h
    | some z =>
      rw [hx] at h; cases h
      exact ⟨_, rfl, fun u hu => by
        cases hu with
        | v _ _ hu => exact .v _ _ hu.nb0⟩
  | _ => exact ⟨q, h, fun _ h => h⟩

theorem tnb_length (x : TV) : x.nb.cells.length = x.cells.length := by
  cases x <;> simp [TV.nb, TV.cells, nb_cells]

theorem maskL_get : ∀ (m : List Bool) (l : List TV) (t : Nat) (x : TV), (maskL m l)[t]? = some x → x = .v .undef ∨ ∃ y, l[t]? = some y ∧ x = y.nb
  | [], l, t, x, h => by
    simp only [maskL, List.getElem?_map] at h
    cases hl : l[t]? with
    | none => rw [hl] at h; cases h
    | some y => rw [hl] at h; cases h; exact .inl rfl
  | true :: m, [], t, x, h => by simp [maskL] at h
  | false :: m, [], t, x, h => by simp [maskL] at h
  | true :: m, y :: l, 0, x, h => by simp [maskL] at h; exact .inr ⟨y, rfl, h.symm⟩
  | true :: m, y :: l, t + 1, x, h => by simp only [maskL, List.getElem?_cons_succ] at h ⊢; exact maskL_get m l t x h
  | false :: m, y :: l, 0, x, h => by simp [maskL] at h; exact .inl h.symm
  | false :: m, y :: l, t + 1, x, h => by simp only [maskL, List.getElem?_cons_succ] at h ⊢; exact maskL_get m l t x h

theorem maskL_length : ∀ (m : List Bool) (l : List TV), (maskL m l).length = l.length
  | [], l => by simp [maskL]
  | true :: m, [] => rfl
  | false :: m, [] => rfl
  | true :: m, y :: l => by simp [maskL, maskL_length m l]
  | false :: m, y :: l => by simp [maskL, maskL_length m l]

def Gh.cut (G : Gh) (n : Nat) : Gh := { G with loc := fun i g => if i < n then G.loc i g else none }

theorem Gh.cut_fz (G : Gh) (n : Nat) : Fz G (G.cut n) ∧ Fz (G.cut n) G := ⟨⟨fun _ _ _ x => x, fun _ _ x => x, fun _ _ x => x, fun _ _ _ _ _ x => x⟩, ⟨fun _ _ _ x => x, fun _ _ x => x, fun _ _ x => x, fun _ _ _ _ _ x => x⟩⟩

theorem cut_loc {n i g : Nat} {x} (hi : i < n) (h : G.loc i g = some x) : (G.cut n).loc i g = some x := by
  simp only [Gh.cut]; rw [if_pos hi]; exact h

theorem clo0_TR {n : Nat} {x : TV} {y : Value} (hc : x.clo0 n = true) (h : TR G x y) : TR (G.cut n) x y := by
  cases h with
  | v x y h => exact .v x y (h.mono (G.cut_fz n).1)
  | ptr i g e f b sz ct h => exact .ptr i g e f b sz ct (cut_loc (by simpa [TV.clo0] using hc) h)
  | arr i g off len b sz ct cap o h h1 h2 h3 => exact .arr i g off len b sz ct cap o (cut_loc (by simpa [TV.clo0] using hc) h) h1 h2 h3
  | arrNil i g sz ct h => exact .arrNil i g sz ct (cut_loc (by simpa [TV.clo0] using hc) h)
  | mapr i b sz ct h => exact .mapr i b sz ct (cut_loc (by simpa [TV.clo0] using hc) h)
  | iter i b sz ct h => exact .iter i b sz ct (cut_loc (by simpa [TV.clo0] using hc) h)
  | bsl i n b sz ct h => exact .bsl i n b sz ct (cut_loc (by simpa [TV.clo0] using hc) h)
  | ref0 c e p => exact .ref0 c e p
  | ref h c e p b ct hl hp => exact .ref h c e p b ct (cut_loc (by simpa [TV.clo0] using hc) hl) hp
  | sl0 c => exact .sl0 c
  | sl s c b ct o hl h1 h2 h3 => exact .sl s c b ct o (cut_loc (by simpa [TV.clo0] using hc) hl) h1 h2 h3
  | mp0 kc vc => exact .mp0 kc vc
  | mp h kc vc b sz ct hl => exact .mp h kc vc b sz ct (cut_loc (by simpa [TV.clo0] using hc) hl)
  | clo f l vs hl h => cases hc
  | agg l vs hl ho h => cases hc
  | tup l vs hl h => cases hc

theorem clo1_TR {n : Nat} {x : TV} {y : Value} (hc : x.clo1 n = true) (h : TR G x y) : TR (G.cut n) x y := by
  have list : ∀ {l : List TV} {vs : List Value}, l.all (TV.clo0 n) = true → (∀ (i : Nat) x y, l[i]? = some x → vs[i]? = some y → TR G x y) →
      ∀ (i : Nat) x y, l[i]? = some x → vs[i]? = some y → TR (G.cut n) x y := by
    intro l vs ha hp i x y hx hy
    exact clo0_TR (List.all_eq_true.1 ha x (List.mem_of_getElem? hx)) (hp i x y hx hy)
  cases h with
  | clo f l vs hl h => exact .clo f l vs hl (list hc h)
  | agg l vs hl ho h => exact .agg l vs hl ho (list hc h)
  | tup l vs hl h => exact .tup l vs hl (list hc h)
  | v x y h => exact clo0_TR hc (.v x y h)
  | ptr i g e f b sz ct h => exact clo0_TR hc (.ptr i g e f b sz ct h)
  | arr i g off len b sz ct cap o h h1 h2 h3 => exact clo0_TR hc (.arr i g off len b sz ct cap o h h1 h2 h3)
  | arrNil i g sz ct h => exact clo0_TR hc (.arrNil i g sz ct h)
  | mapr i b sz ct h => exact clo0_TR hc (.mapr i b sz ct h)
  | iter i b sz ct h => exact clo0_TR hc (.iter i b sz ct h)
  | bsl i n b sz ct h => exact clo0_TR hc (.bsl i n b sz ct h)
  | ref0 c e p => exact clo0_TR hc (.ref0 c e p)
  | ref h c e p b ct hl hp => exact clo0_TR hc (.ref h c e p b ct hl hp)
  | sl0 c => exact clo0_TR hc (.sl0 c)
  | sl s c b ct o hl h1 h2 h3 => exact clo0_TR hc (.sl s c b ct o hl h1 h2 h3)
  | mp0 kc vc => exact clo0_TR hc (.mp0 kc vc)
  | mp h kc vc b sz ct hl => exact clo0_TR hc (.mp h kc vc b sz ct hl)

theorem TV.clo1_cells {n : Nat} {x : TV} (h : x.clo1 n = true) : ∀ y ∈ x.cells, y.clo1 n = true := by
  intro y hy
  cases x with
  | v x =>
    simp only [TV.cells, List.mem_map] at hy
    obtain ⟨q, _, rfl⟩ := hy
    rfl
  | agg l =>
    simp only [TV.cells] at hy
    have := List.all_eq_true.1 h y hy
    cases y <;> first | exact this | cases this
  | _ => simp only [TV.cells, List.mem_singleton] at hy; subst hy; exact h

theorem Xd.cells_clo {n : Nat} (hn : 0 < n) : ∀ (c : Xd) (x : c.T), ∀ y ∈ c.cells x, y.clo1 n = true
  | .pure c, x, y, h => by
    simp only [Xd.cells, List.mem_map] at h
    obtain ⟨z, _, rfl⟩ := h
    rfl
  | .ref _, _, y, h => by simp [Xd.cells] at h; subst h; simpa [TV.clo1, TV.clo0] using hn
  | .sl _, _, y, h => by simp [Xd.cells] at h; subst h; simpa [TV.clo1, TV.clo0] using hn
  | .mp _ _, _, y, h => by simp [Xd.cells] at h; subst h; simpa [TV.clo1, TV.clo0] using hn
  | .pair a b, p, y, h => by
    simp only [Xd.cells, List.mem_append] at h
    rcases h with h | h
    · exact Xd.cells_clo hn a _ y h
    · exact Xd.cells_clo hn b _ y h
  | .vec n a, f, y, h => by
    simp only [Xd.cells, List.mem_flatMap] at h
    obtain ⟨i, _, h⟩ := h
    exact Xd.cells_clo hn a _ y h

theorem Xd.cells_clo0 {n : Nat} (hn : 0 < n) : ∀ (c : Xd) (x : c.T), ∀ y ∈ c.cells x, y.clo0 n = true
  | .pure c, x, y, h => by
    simp only [Xd.cells, List.mem_map] at h
    obtain ⟨z, _, rfl⟩ := h
    rfl
  | .ref _, _, y, h => by simp [Xd.cells] at h; subst h; simpa [TV.clo0] using hn
  | .sl _, _, y, h => by simp [Xd.cells] at h; subst h; simpa [TV.clo0] using hn
  | .mp _ _, _, y, h => by simp [Xd.cells] at h; subst h; simpa [TV.clo0] using hn
  | .pair a b, p, y, h => by
    simp only [Xd.cells, List.mem_append] at h
    rcases h with h | h
    · exact Xd.cells_clo0 hn a _ y h
    · exact Xd.cells_clo0 hn b _ y h
  | .vec n a, f, y, h => by
    simp only [Xd.cells, List.mem_flatMap] at h
    obtain ⟨i, _, h⟩ := h
    exact Xd.cells_clo0 hn a _ y h

theorem Xd.enc_clo {n : Nat} (hn : 0 < n) (c : Xd) (x : c.T) : (c.enc x).clo1 n = true := by
  have agg : ∀ l : List TV, (∀ y ∈ l, y.clo0 n = true) → (TV.mkAgg l).clo1 n = true := by
    intro l hl
    unfold TV.mkAgg
    split
    · rfl
    · exact List.all_eq_true.2 hl
  cases c with
  | pure c => rfl
  | ref c => simpa [Xd.enc, TV.clo1, TV.clo0] using hn
  | sl c => simpa [Xd.enc, TV.clo1, TV.clo0] using hn
  | mp kc vc => simpa [Xd.enc, TV.clo1, TV.clo0] using hn
  | pair a b => exact agg _ (Xd.cells_clo0 hn (.pair a b) x)
  | vec k a => exact agg _ (Xd.cells_clo0 hn (.vec k a) x)

/-- forgetting at a loop's head -/
theorem Rel.mask {m : List Bool × Nat} {h0 : Nat} (hr : Rel Mine G s a w) (hc : (s.mask m).clo m.2 = true) (hm : h0 ≤ m.2) (hh : h0 ≤ s.hp.length) :
    ∃ G', Rel Mine G' (s.mask m) a w ∧ Fz G G' ∧ Lc h0 G G' ∧ h0 ≤ (s.mask m).hp.length := by
  simp only [St.clo, Bool.and_eq_true] at hc
  obtain ⟨hc1, hc2⟩ := hc
  have hget : ∀ (i : Nat) o, ((s.hp.take m.2).map O.nb)[i]? = some (some o) → i < m.2 ∧ ∃ o0, s.hp[i]? = some (some o0) ∧ O.nb (some o0) = some o ∧ o0.gen = o.gen ∧ ∀ g, o.has g → o0.has g := by
    intro i o hi
    rw [List.getElem?_map, List.getElem?_take] at hi
    split at hi
    · refine ⟨by assumption, ?_⟩
      cases ho : s.hp[i]? with
      | none => rw [ho] at hi; cases hi
      | some q =>
        rw [ho] at hi
        cases q with
        | none => cases hi
        | some o0 =>
          refine ⟨o0, rfl, by simpa using hi, ?_⟩
          cases o0 <;> cases hi <;> exact ⟨rfl, fun _ h => h⟩
    · cases hi
  have hfz := G.cut_fz m.2
  have hloc : ∀ i g, i < m.2 → (G.cut m.2).loc i g = G.loc i g := by
    intro i g hi; simp only [Gh.cut]; rw [if_pos hi]
  refine ⟨G.cut m.2, ⟨by simp [St.mask, maskL_length, hr.len], fun t x hx => ?_, hr.defers, ?_⟩, hfz.1, fun i hi g x hx => cut_loc (by omega) hx, by simp [St.mask]; omega⟩
  · simp only [St.mask] at hx
    have hcl := List.all_eq_true.1 hc1 x (List.mem_of_getElem? hx)
    rcases maskL_get _ _ _ _ hx with rfl | ⟨y, h, rfl⟩
    · exact TR.undef _
    · exact clo1_TR hcl (hr.tm t y h).nb
  · have hi := hr.inv
    refine ⟨hi.cells, hi.mps, ?_, ?_, hi.toks, ?_, hi.tinj, ?_, ?_, hi.tfin, hi.mine, hi.old⟩
    · intro i o hio
      have hco := List.all_eq_true.1 hc2 _ (List.mem_of_getElem? hio)
      obtain ⟨hil, o0, hio', hnb, hgen, _⟩ := hget i o hio
      have hor := hi.objs i o0 hio'
      cases o0 with
      | heap X =>
        cases hnb
        have := hor.1
        subst this
        have e1 : ∀ g, (G.cut m.2).loc 0 g = G.loc 0 g := fun g => hloc 0 g hil
        have mono : ∀ {y : TV} {u : Value}, TR G y u → TR (G.cut m.2) y u → TR (G.cut m.2) y u := fun _ h => h
        obtain ⟨-, h1, h2, h3⟩ := hor
        refine ⟨rfl, fun h hh => ⟨(h1 h hh).1, by rw [e1]; exact (h1 h hh).2⟩, fun h o ho => ?_, fun h h' b sz ct sz' ct' hne n1 n2 l1 l2 => h3 h h' b sz ct sz' ct' hne n1 n2 (by rw [← e1]; exact l1) (by rw [← e1]; exact l2)⟩
        have cut : ∀ (c : Xd) (x : c.T) (j : Nat) y, (c.cells x)[j]? = some y → ∀ u, TR G y u → TR (G.cut m.2) y u := by
          intro c x j y hy u hu
          exact clo1_TR (Xd.cells_clo hil c x y (List.mem_of_getElem? hy)) hu
        have cutE : ∀ (c : Xd) (x : c.T) u, TR G (c.enc x) u → TR (G.cut m.2) (c.enc x) u := by
          intro c x u hu
          exact clo1_TR (Xd.enc_clo hil c x) hu
        cases o with
        | arr c l =>
          obtain ⟨b, k1, k2, k3, cur, el, k4, k5, k6⟩ := h2 h _ ho
          refine ⟨b, by rw [e1]; exact k1, k2, ⟨k3.1, k3.2⟩, cur, el, k4, k5, fun e x hx j y hy => ?_⟩
          obtain ⟨u, q1, q2, q3⟩ := k6 e x hx j y hy
          exact ⟨u, q1, cut c x j y hy u q2, q3⟩
        | map kc vc es =>
          obtain ⟨b, sz, ct, k1, k2, k3, ents, ck, k4, k5, k6, k7⟩ := h2 h _ ho
          exact ⟨b, sz, ct, by rw [e1]; exact k1, k2, ⟨k3.1, k3.2⟩, ents, ck, k4, k5, fun j e m he hm => ⟨(k6 j e m he hm).1.mono hfz.1, cutE vc e.2 _ (k6 j e m he hm).2⟩, k7⟩
      | box x =>
        cases hnb
        obtain ⟨b, sz, ct, h1, h2, h3, cur, el, h4, h5, h6⟩ := hor
        refine ⟨b, sz, ct, cut_loc hil h1, h2, ⟨h3.1, h3.2⟩, cur, el, h4, by rw [tnb_length]; exact h5, fun j y u hy hu => ?_⟩
        obtain ⟨y0, hy0, hyr⟩ := tnb_cells (G := G) x j y hy
        exact ⟨clo1_TR (TV.clo1_cells hco y (List.mem_of_getElem? hy)) (hyr u (h6 j y0 u hy0 hu).1), (h6 j y0 u hy0 hu).2⟩
      | arr g c l ts =>
        cases hnb
        obtain ⟨bo, ct, h1, hle, h2⟩ := hor
        refine ⟨bo, ct, cut_loc hil h1, hle, ?_⟩
        cases bo with
        | none => exact h2
        | some b =>
          obtain ⟨h2, h3, cur, el, h4, h5, h6⟩ := h2
          refine ⟨h2, ⟨h3.1, h3.2⟩, cur, el, h4, h5, fun e x hx j y hy => ?_⟩
          obtain ⟨u, q1, q2, q3⟩ := h6 e x hx j y hy
          exact ⟨u, q1, q2.mono hfz.1, q3⟩
      | map kc vc es =>
        cases hnb
        obtain ⟨b, sz, ct, h1, h2, h3, ents, ck, h4, h5, h6⟩ := hor
        exact ⟨b, sz, ct, cut_loc hil h1, h2, ⟨h3.1, h3.2⟩, ents, ck, h4, h5, fun j e m he hm => ⟨(h6 j e m he hm).1.mono hfz.1, (h6 j e m he hm).2.mono hfz.1⟩⟩
      | siter _ _ => exact hor.elim
    · intro i j o o' b hij h1 h2 l1 l2
      obtain ⟨hil, o1, h1, _, g1, q1⟩ := hget i o h1
      obtain ⟨hjl, o2, h2, _, g2, q2⟩ := hget j o' h2
      obtain ⟨g, s1, c1, a1, a2⟩ := l1
      obtain ⟨g', s2, c2, b1, b2⟩ := l2
      rw [hloc _ _ hil] at a2
      rw [hloc _ _ hjl] at b2
      exact hi.inj i j o1 o2 b hij h1 h2 ⟨g, s1, c1, q1 g a1, a2⟩ ⟨g', s2, c2, q2 g' b1, b2⟩
    · intro t ht i o b e c h1 h2 l1
      obtain ⟨hil, o1, h2, _, g1, q1⟩ := hget i o h2
      obtain ⟨g, s1, c1, a1, a2⟩ := l1
      rw [hloc _ _ hil] at a2
      exact hi.tobj t ht i o1 b e c h1 h2 ⟨g, s1, c1, q1 g a1, a2⟩
    · intro i g hig
      simp only [St.mask, List.length_map, List.length_take] at hig
      simp only [Gh.cut]
      split
      · rename_i hlt
        exact hi.lb i g (by omega)
      · rfl
    · intro i o g h1 hg
      obtain ⟨hil, o1, h1, _, g1, _⟩ := hget i o h1
      rw [hloc _ _ hil]
      exact hi.gens i o1 g h1 (by rw [g1]; exact hg)

theorem awp_sound (htt : TTOK P tt) {call : CallP} (hcs : CallS P call) (hcd : CallDet call) (hmix : P.follows .mixedOrders = true) {md : Mds} {h0 : Nat} {msk : Nat → List Bool × Nat} :
    ∀ (c : Code) (b : Nat) (Q : Exit → St → Prop) (s : St) (G : Gh) (a : Act) (w : World), awp tt call md h0 msk b c Q s → Rel Mine G s a w → h0 ≤ s.hp.length →
      c.wp P (Lift Mine G h0 w Q) a w := by
  intro c
  induction c with
  | skip => intro b Q s G a w h hr hh; exact wp_skip ⟨s, G, h, hr, .refl _, .refl _ _, hh, .refl _ _⟩
  | label l => intro b Q s G a w h hr hh; exact wp_label ⟨s, G, h, hr, .refl _, .refl _ _, hh, .refl _ _⟩
  | exit id => intro b Q s G a w h hr hh; exact wp_exit ⟨s, G, h, hr, .refl _, .refl _ _, hh, .refl _ _⟩
  | ret => intro b Q s G a w h hr hh; exact wp_ret ⟨s, G, h, hr, .refl _, .refl _ _, hh, .refl _ _⟩
  | region id ops d =>
    intro b Q s G a w h hr hh
    have conv : ∀ {e : Exit} {a' : Act} {w' : World}, Lift Mine G h0 w (seqK (Q .normal) (fun _ _ => False)) e a' w' → Lift Mine G h0 w Q e a' w' := by
      rintro e a' w' ⟨s', G', h1, h2⟩
      cases e <;> first | exact ⟨s', G', h1, h2⟩ | exact h1.elim
    cases d with
    | false =>
      refine wp_region_list (list_mono (fun e a w h => conv h) _ _ _ (awpL_sound htt hcs _ _ s G a w h hr hh))
    | true => exact Code.wp_mono (fun e a w h => conv h) (drawn_sound htt hcs hcd hmix h hr hh)
  | seq x y ihx ihy =>
    intro b Q s G a w h hr hh
    refine wp_seq (Code.wp_mono ?_ (ihx b _ s G a w h hr hh))
    rintro e a' w' ⟨s', G', h1, h2, h3, h4, h5, h6⟩
    cases e <;> first
      | exact Code.wp_mono (fun e a w h => Lift.of h3 h4 h6 h) (ihy b Q s' G' a' w' h1 h2 h5)
      | exact ⟨s', G', h1, h2, h3, h4, h5, h6⟩
  | cond c x y ihx ihy =>
    intro b Q s G a w h hr hh
    have hv := hr.ev (tt := tt) 0 c
    unfold awp at h
    split at h
    · rename_i hc
      rw [hc] at hv
      have : a.eval c = .bool true := by
        generalize a.eval c = u at hv
        cases hv with | v _ _ hv => cases hv; rfl
      exact wp_cond_true this (ihx b Q s G a w h hr hh)
    · rename_i hc
      rw [hc] at hv
      have : a.eval c = .bool false := by
        generalize a.eval c = u at hv
        cases hv with | v _ _ hv => cases hv; rfl
      exact wp_cond_false this (ihy b Q s G a w h hr hh)
    · rename_i t hc
      rw [hc] at hv
      have : a.eval c = .bool t := by
        generalize a.eval c = u at hv
        cases hv with | v _ _ hv => cases hv; rfl
      exact wp_cond_split this (fun ht => ihx b Q s G a w (h.1 ht) hr hh) (fun ht => ihy b Q s G a w (h.2 ht) hr hh)
    · exact h.elim
  | block id c ih =>
    intro b Q s G a w h hr hh
    refine wp_block (Code.wp_mono ?_ (ih id _ s G a w h hr hh))
    rintro e a' w' ⟨s', G', h1, h2, h3, h4, h5, h6⟩
    cases e with
    | exit id' =>
      simp only [Exit.inBlock]
      simp only [blockK] at h1
      split
      · rename_i e
        subst e
        rw [Nat.beq_refl] at h1
        exact ⟨s', G', h1, h2, h3, h4, h5, h6⟩
      · rename_i e
        have : Nat.beq id' id = false := by
          cases hb : Nat.beq id' id with
          | false => rfl
          | true => exact absurd (Nat.eq_of_beq_eq_true hb) e
        rw [this] at h1
        exact ⟨s', G', h1, h2, h3, h4, h5, h6⟩
    | _ => exact ⟨s', G', h1, h2, h3, h4, h5, h6⟩
  | loop c ih =>
    intro b Q s G a w h hr hh
    unfold awp at h
    split at h
    · -- so many rounds
      generalize (msk b).2 - 1000000 = N at h
      refine wp_loop_ghost (fun n a' w' => ∃ s' G', Unroll (awp tt call md h0 msk b c) Q n s' ∧ Rel Mine G' s' a' w' ∧ Fz G G' ∧ Lc h0 G G' ∧ h0 ≤ s'.hp.length ∧ Stp Mine w w') N
        ⟨_, G, h, hr, .refl _, .refl _ _, hh, .refl _ _⟩ ?_
      rintro n a1 w1 ⟨s1, G2, hI1, hr2, hf2, hl2, hh2, hs2⟩
      cases n with
      | zero => exact hI1.elim
      | succ n =>
        refine Code.wp_mono ?_ (ih b _ s1 G2 a1 w1 hI1 hr2 hh2)
        rintro e a' w' ⟨s', G', h1, h2, h3, h4, h5, h6⟩
        cases e with
        | normal => exact ⟨n, Nat.lt_succ_self n, s', G', h1, h2, hf2.trans h3, hl2.trans h4, h5, hs2.trans h6⟩
        | _ => exact ⟨s', G', h1, h2, hf2.trans h3, hl2.trans h4, h5, hs2.trans h6⟩
    split at h
    case h_2 => exact h.elim
    rename_i hc
    obtain ⟨I, ⟨n0, hI⟩, hround⟩ := h
    obtain ⟨G1, hr1, hf1, hl1, hh1⟩ := hr.mask hc (Nat.le_add_right _ _) hh
    refine wp_loop_ghost (fun n a' w' => ∃ s' G', I n s' ∧ Rel Mine G' s' a' w' ∧ Fz G G' ∧ Lc h0 G G' ∧ h0 ≤ s'.hp.length ∧ Stp Mine w w') n0
      ⟨_, G1, hI, hr1, hf1, hl1, hh1, .refl _ _⟩ ?_
    rintro n a1 w1 ⟨s1, G2, hI1, hr2, hf2, hl2, hh2, hs2⟩
    refine Code.wp_mono ?_ (ih b _ s1 G2 a1 w1 (hround n s1 hI1) hr2 hh2)
    rintro e a' w' ⟨s', G', h1, h2, h3, h4, h5, h6⟩
    cases e with
    | normal =>
      simp only [loopQ] at h1
      split at h1
      case h_2 => exact h1.elim
      rename_i hc'
      obtain ⟨n', hlt, hI'⟩ := h1
      obtain ⟨G3, hr3, hf3, hl3, hh3⟩ := h2.mask hc' (Nat.le_add_right _ _) h5
      exact ⟨n', hlt, _, G3, hI', hr3, hf2.trans (h3.trans hf3), hl2.trans (h4.trans hl3), hh3, hs2.trans h6⟩
    | _ => exact ⟨s', G', h1, h2, hf2.trans h3, hl2.trans h4, h5, hs2.trans h6⟩
  | _ => intro b Q s G a w h hr hh; exact h.elim

end
end Go.Proofs.Ytaaedebknacheaa.AB

set_option linter.unusedVariables false
set_option linter.unusedSimpArgs false
namespace Go.Proofs.Ytaaedebknacheaa.AB
open Go

mutual
/-- no numbered token in it -/
def V.nt : V → Bool
  | .list _ _ (.tk _) => false
  | .agg l => V.ntL l
  | .tup l => V.ntL l
  | .fptr x _ => x.nt
  | .iface _ x => x.nt
  | _ => true
def V.ntL : List V → Bool
  | [] => true
  | x :: l => x.nt && V.ntL l
end

theorem ntL_mem : ∀ {l : List V}, V.ntL l = true → ∀ x ∈ l, x.nt = true
  | [], _, x, hx => by cases hx
  | y :: l, h, x, hx => by
    unfold V.ntL at h
    rw [Bool.and_eq_true] at h
    rcases List.mem_cons.1 hx with rfl | hx
    · exact h.1
    · exact ntL_mem h.2 x hx

theorem ntL_of : ∀ {l : List V}, (∀ x ∈ l, x.nt = true) → V.ntL l = true
  | [], _ => rfl
  | y :: l, h => by
    unfold V.ntL
    rw [h y (List.mem_cons_self ..), ntL_of fun x hx => h x (List.mem_cons_of_mem _ hx)]; rfl

theorem Cd.cells_nt : ∀ (c : Cd) (x : c.T), ∀ y ∈ c.cells x, y.nt = true
  | .unit, _, y, h => by simp [Cd.cells] at h
  | .int k, n, y, h => by simp [Cd.cells] at h; subst h; rfl
  | .bool, b, y, h => by simp [Cd.cells] at h; subst h; rfl
  | .str, s, y, h => by simp [Cd.cells] at h; subst h; rfl
  | .slice c, l, y, h => by simp [Cd.cells] at h; subst h; rfl
  | .pair a b, p, y, h => by
    simp only [Cd.cells, List.mem_append] at h
    rcases h with h | h
    · exact Cd.cells_nt a p.1 y h
    · exact Cd.cells_nt b p.2 y h

theorem Cd.enc_nt (c : Cd) (x : c.T) : (c.enc x).nt = true := by
  cases c <;> first
    | rfl
    | exact ntL_of (Cd.cells_nt (.pair _ _) x)

theorem nt_cells {x : V} (h : x.nt = true) : ∀ y ∈ x.cells, y.nt = true := by
  intro y hy
  cases x with
  | agg l => exact ntL_mem (by unfold V.nt at h; exact h) y hy
  | _ => simp only [V.cells, List.mem_singleton] at hy; subst hy; exact h

/-- what is frozen, and no more -/
def Gh.bare (G : Gh) : Gh := ⟨G.cell, G.mp, fun _ => none, fun _ _ => none⟩

theorem VR.bare {G : Gh} {x : V} {y : Value} (h : VR G x y) : x.nt = true → VR G.bare x y := by
  induction h with
  | undef y => exact fun _ => .undef y
  | tt => exact fun _ => .tt
  | ff => exact fun _ => .ff
  | int k n => exact fun _ => .int k n
  | bool b => exact fun _ => .bool b
  | str l => exact fun _ => .str l
  | agg l vs hl ho h ih =>
    intro hn
    exact .agg l vs hl ho fun i x y hx hy => ih i x y hx hy (ntL_mem (by unfold V.nt at hn; exact hn) x (List.mem_of_getElem? hx))
  | tup l vs hl h ih =>
    intro hn
    exact .tup l vs hl fun i x y hx hy => ih i x y hx hy (ntL_mem (by unfold V.nt at hn; exact hn) x (List.mem_of_getElem? hx))
  | list c l t a cap b o vals ha hcap hc ho hv ht ih =>
    intro hn
    refine .list c l t a cap b o vals ha hcap hc ho (fun i x hx => ih i x hx ?_) ?_
    · obtain ⟨z, _, hz⟩ := List.mem_flatMap.1 (List.mem_of_getElem? hx)
      exact Cd.cells_nt c z x hz
    · cases t with
      | no => trivial
      | exact => exact ht
      | tk n => simp [V.nt] at hn
  | fptr x f b o vals hc ho hv ih =>
    intro hn
    exact .fptr x f b o vals hc ho fun i y hy => ih i y hy (nt_cells (by unfold V.nt at hn; exact hn) y (List.mem_of_getElem? hy))
  | fmap kc vc es r ents hm hl hk hv ihk ihv =>
    intro _
    exact .fmap kc vc es r ents hm hl (fun i e e' h1 h2 => ihk i e e' h1 h2 (Cd.enc_nt _ _)) (fun i e e' h1 h2 => ihv i e e' h1 h2 (Cd.enc_nt _ _))
  | fn f => exact fun _ => .fn f
  | iface t x y h ih => exact fun hn => .iface t x y (ih (by unfold V.nt at hn; exact hn))
  | nils => exact fun _ => .nils
  | nilp => exact fun _ => .nilp
  | nilm => exact fun _ => .nilm
  | nilf => exact fun _ => .nilf
  | nili => exact fun _ => .nili

/-- what is frozen stands in memory -/
structure FzOK (G : Gh) (w : World) : Prop where
  cells : ∀ b o v, G.cell b o = some v → w.cell? ⟨b, o, none⟩ = some v
  mps : ∀ r es, G.mp r = some es → ∃ (ents : Array MapEntry) (ck : Nat), w.heap[r]? = some (.map ents ck) ∧ ents.toList.map (fun m => (m.key, m.val)) = es

open Classical in
/-- all that is own is frozen -/
noncomputable def Gh.fzAll (G : Gh) (Mine : Mn) (w : World) : Gh :=
  { G with
    cell := fun b o => (G.cell b o).or (if Mine b then w.cell? ⟨b, o, none⟩ else none)
    mp := fun r => (G.mp r).or (if Mine r then (match w.heap[r]? with
      | some (.map ents _) => some (ents.toList.map fun m => (m.key, m.val))
      | _ => none) else none) }

/-- what is given out at the end -/
def frz0 (hp : Hp) (x : TV) (K : V → Prop) : Prop :=
  match x with
  | .v x => K x.norm
  | .arr i g off len => match hp.getD i none with
    | some (.arr g' c l _) => g = g' ∧ off + len ≤ l.length ∧ K (.list c ((l.drop off).take len) .no)
    | _ => False
  | .mapr i => match hp.getD i none with
    | some (.map kc vc es) => K (.fmap kc vc (es.map fun e => (e.1, e.2.1)))
    | _ => False
  | .ptr i g e f => match g, e, hp.getD i none with
    | 0, 0, some (.box (.v y)) => K (.fptr y.norm1 f)
    | _, _, _ => False
  | _ => False

def frzL (F : TV → (V → Prop) → Prop) : List TV → (List V → Prop) → Prop
  | [], K => K []
  | x :: l, K => F x fun v => frzL F l fun vs => K (v :: vs)

def frz1 (hp : Hp) (x : TV) (K : V → Prop) : Prop :=
  match x with
  | .agg l => frzL (frz0 hp) l fun vs => K (.agg (vs.map V.norm0))
  | x => frz0 hp x K

def frz (hp : Hp) (x : TV) (K : V → Prop) : Prop :=
  match x with
  | .tup l => frzL (frz1 hp) l fun vs => K (.tup vs)
  | x => frz1 hp x K

section
variable {P : Program} {tt : TT} {Mine : Mn} {G : Gh} {s : St} {a : Act} {w : World} {hp : Hp} {T : Toks}

theorem fzAll_fz : Fz G (G.fzAll Mine w) := by
  refine ⟨fun b o v h => ?_, fun r e h => ?_, fun _ _ h => h, fun _ _ _ _ _ h => h⟩
  · simp [Gh.fzAll, h]
  · simp [Gh.fzAll, h]

theorem fzAll_ok (hi : Inv Mine G hp T w) : FzOK (G.fzAll Mine w) w := by
  refine ⟨fun b o v h => ?_, fun r e h => ?_⟩
  · simp only [Gh.fzAll] at h
    cases hc : G.cell b o with
    | some v' => rw [hc] at h; cases h; exact hi.cells b o v hc
    | none =>
      rw [hc, Option.none_or] at h
      split at h
      · exact h
      · cases h
  · simp only [Gh.fzAll] at h
    cases hc : G.mp r with
    | some v' => rw [hc] at h; cases h; exact hi.mps r e hc
    | none =>
      rw [hc, Option.none_or] at h
      split at h
      · split at h
        · rename_i ents ck he
          cases h
          exact ⟨ents, ck, he, rfl⟩
        · cases h
      · cases h

theorem fzAll_old (hi : Inv Mine G hp T w) : (∀ b o v, (G.fzAll Mine w).cell b o = some v → Mine b ∨ Mine.cell b o = some v) ∧
    ∀ r e, (G.fzAll Mine w).mp r = some e → Mine r ∨ Mine.mp r = some e := by
  refine ⟨fun b o v h => ?_, fun r e h => ?_⟩
  · simp only [Gh.fzAll] at h
    cases hc : G.cell b o with
    | some v' => rw [hc] at h; cases h; exact hi.old.1 b o v hc
    | none =>
      rw [hc, Option.none_or] at h
      split at h
      · exact .inl (by assumption)
      · cases h
  · simp only [Gh.fzAll] at h
    cases hc : G.mp r with
    | some v' => rw [hc] at h; cases h; exact hi.old.2 r e hc
    | none =>
      rw [hc, Option.none_or] at h
      split at h
      · exact .inl (by assumption)
      · cases h

theorem fzAll_cell (hi : Inv Mine G hp T w) {b o : Nat} (hm : Mine b) {cur : Array Value} {el : TypeId} (hb : w.heap[b]? = some (.cells cur el (0, 0))) {u : Value} (hu : cur[o]? = some u) :
    (G.fzAll Mine w).cell b o = some u := by
  have hw : w.cell? ⟨b, o, none⟩ = some u := by unfold World.cell?; simp only [hb]; simpa using hu
  simp only [Gh.fzAll]
  cases hc : G.cell b o with
  | some v' =>
    have := hi.cells b o v' hc
    rw [hw] at this; cases this; rfl
  | none => rw [Option.none_or, if_pos hm]; exact hw

theorem frz0_sound {x : TV} {y : Value} {K : V → Prop} (h : frz0 hp x K) (hi : Inv Mine G hp T w) (hx : TR G x y) : ∃ r, K r ∧ VR (G.fzAll Mine w) r y := by
  unfold frz0 at h
  have objAt : ∀ {i : Nat} {o : O}, hp.getD i none = some o → hp[i]? = some (some o) := by
    intro i o ho
    simp only [List.getD] at ho
    cases hh : hp[i]? with
    | none => rw [hh] at ho; cases ho
    | some q => rw [hh] at ho; exact congrArg some ho
  split at h
  · cases hx with
    | v _ _ hx => exact ⟨_, h, (hx.mono fzAll_fz.f0).norm⟩
  · rename_i i g off len
    split at h
    case h_2 => exact h.elim
    rename_i g' c l ts ho
    obtain ⟨rfl, hlen, hk⟩ := h
    obtain ⟨bo, ct, hloc, hlct, hor⟩ := hi.objs i _ (objAt ho)
    refine ⟨_, hk, ?_⟩
    have hlen' : ((l.drop off).take len).length = len := by simp; omega
    cases hx with
    | arr _ _ _ _ b sz ct' cap o hl' h1 h2 h3 =>
      rw [hloc] at hl'; cases hl'
      obtain ⟨hm, hpriv, cur, el, hb, hsz, hcells⟩ := hor
      have hat := arr_cells hcells
      have hfl : ∀ (j : Nat) q, (((l.drop off).take len).flatMap c.cells)[j]? = some q → (l.flatMap c.cells)[off * c.sz + j]? = some q := by
        intro j q hq
        have := flat_take c (l.drop off) len j q hq
        rwa [flat_drop] at this
      have ho' : ∀ (j : Nat) q, (((l.drop off).take len).flatMap c.cells)[j]? = some q → o = off * c.sz := by
        intro j q hq
        refine h3 ?_
        have hj := (List.getElem?_eq_some_iff.1 hq).1
        rw [length_flat, hlen'] at hj
        rcases Nat.eq_zero_or_pos len with h0 | h0
        · rw [h0] at hj; omega
        · omega
      have hvr := VR.list (G := G.fzAll Mine w) c ((l.drop off).take len) .no (some ⟨b, o, none⟩) cap b o (fun j => cur.getD (o + j) Go.undef) (fun _ => rfl) (by rw [hlen']; exact h1)
        (fun j q hq => by
          obtain ⟨u, q1, q2, q3⟩ := hat _ q (hfl j q hq)
          have := ho' j q hq
          subst this
          rw [fzAll_cell hi hm hb q1]
          simp [Array.getD_eq_getD_getElem?, q1])
        (fun j q hq => by
          obtain ⟨u, q1, q2, q3⟩ := hat _ q (hfl j q hq)
          have := ho' j q hq
          subst this
          simpa [Array.getD_eq_getD_getElem?, q1] using q3)
        (fun j q hq => by
          obtain ⟨u, q1, q2, q3⟩ := hat _ q (hfl j q hq)
          have := ho' j q hq
          subst this
          simpa [Array.getD_eq_getD_getElem?, q1] using q2.mono fzAll_fz.f0) trivial
      rw [hlen'] at hvr
      exact hvr
    | arrNil _ _ sz ct' hl' =>
      have := VR.list (G := G.fzAll Mine w) c [] .no none 0 0 0 (fun _ => Go.undef) (fun h => absurd rfl h) (Nat.le_refl _) (fun i x hx => by simp at hx) (fun i x hx => by simp at hx) (fun i x hx => by simp at hx) trivial
      simpa using this
  · rename_i i
    split at h
    case h_2 => exact h.elim
    rename_i kc vc es ho
    obtain ⟨b, sz, ct, hloc, hm, hpriv, ents, ck, hb, hlen, hent⟩ := hi.objs i _ (objAt ho)
    refine ⟨_, h, ?_⟩
    cases hx with
    | mapr _ b' sz' ct' hl' =>
      rw [hloc] at hl'; cases hl'
      refine .fmap kc vc _ b (ents.toList.map fun m => (m.key, m.val)) ?_ (by simp [hlen]) (fun j e e' h1 h2 => ?_) (fun j e e' h1 h2 => ?_)
      · simp only [Gh.fzAll]
        rw [hpriv.2, Option.none_or, if_pos hm, hb]
      · simp only [List.getElem?_map] at h1 h2
        cases he : es[j]? with
        | none => rw [he] at h1; cases h1
        | some q =>
          cases hm : ents.toList[j]? with
          | none => rw [hm] at h2; cases h2
          | some m =>
            rw [he] at h1; rw [hm] at h2; cases h1; cases h2
            exact ((hent j q m he (by rw [← Array.getElem?_toList]; exact hm)).1).mono fzAll_fz.f0
      · simp only [List.getElem?_map] at h1 h2
        cases he : es[j]? with
        | none => rw [he] at h1; cases h1
        | some q =>
          cases hm : ents.toList[j]? with
          | none => rw [hm] at h2; cases h2
          | some m =>
            rw [he] at h1; rw [hm] at h2; cases h1; cases h2
            have := ((hent j q m he (by rw [← Array.getElem?_toList]; exact hm)).2).mono (G' := G.fzAll Mine w) fzAll_fz.f0
            show VR _ (vc.enc q.2.1) m.val
            generalize q.2.2 = tk at this
            revert this
            generalize q.2.1 = z
            cases vc <;> intro this <;> first
              | exact this
              | exact this.norm0
  · rename_i i g e f
    split at h
    case h_2 => exact h.elim
    rename_i y' ho
    obtain ⟨b, sz, ct, hloc, hm, hpriv, cur, el, hb, hlen, hcells⟩ := hi.objs i _ (objAt ho)
    refine ⟨_, h, ?_⟩
    cases hx with
    | ptr _ _ _ _ b' sz' ct' hl' =>
      rw [hloc] at hl'; cases hl'
      have hcl : ∀ (j : Nat) q, y'.norm1.cells[j]? = some q → ∃ u, cur[j]? = some u ∧ VR G q u ∧ u.oneCell' = true := by
        intro j q hq
        have hlen2 : y'.norm1.cells.length = y'.cells.length := by cases y' <;> simp [V.norm1, V.norm0, V.cells]
        have hj : j < cur.size := by
          have := (List.getElem?_eq_some_iff.1 hq).1
          rw [← hlen]; simp only [TV.cells, List.length_map]; omega
        have hcur : cur[j]? = some cur[j] := Array.getElem?_eq_getElem hj
        have hj2 : j < y'.cells.length := by rw [← hlen2]; exact (List.getElem?_eq_some_iff.1 hq).1
        have := hcells j (.v y'.cells[j]) cur[j] (by simp only [TV.cells, List.getElem?_map, List.getElem?_eq_getElem hj2, Option.map_some]) hcur
        refine ⟨_, hcur, ?_, this.2⟩
        cases this.1 with
        | v _ _ hv =>
          have hq2 : q = (y'.cells[j]).norm0 := by
            cases y' with
            | agg l =>
              simp only [V.norm1, V.cells, List.getElem?_map] at hq
              have : l[j]? = some l[j] := List.getElem?_eq_getElem hj2
              rw [this] at hq; cases hq; rfl
            | _ =>
              have hj0 : j = 0 := by simp [V.cells] at hj2; exact hj2
              subst hj0
              simp [V.norm1, V.norm0, V.cells] at hq
              subst hq; rfl
          rw [hq2]; exact hv.norm0
      have := VR.fptr (G := G.fzAll Mine w) y'.norm1 f b 0 (fun j => cur.getD j Go.undef)
        (fun j q hq => by
          obtain ⟨u, q1, q2, q3⟩ := hcl j q hq
          rw [Nat.zero_add, fzAll_cell hi hm hb q1]
          simp [Array.getD_eq_getD_getElem?, q1])
        (fun j q hq => by
          obtain ⟨u, q1, q2, q3⟩ := hcl j q hq
          simpa [Array.getD_eq_getD_getElem?, q1] using q3)
        (fun j q hq => by
          obtain ⟨u, q1, q2, q3⟩ := hcl j q hq
          simpa [Array.getD_eq_getD_getElem?, q1] using q2.mono fzAll_fz.f0)
      simpa using this
  · exact h.elim

theorem frzL_sound {F : TV → (V → Prop) → Prop} {G' : Gh} (hF : ∀ x y K, F x K → TR G x y → ∃ r, K r ∧ VR G' r y) : ∀ (l : List TV) (vs : List Value) (K : List V → Prop), frzL F l K → l.length = vs.length →
    (∀ (i : Nat) x y, l[i]? = some x → vs[i]? = some y → TR G x y) → ∃ rs, K rs ∧ rs.length = vs.length ∧ ∀ (i : Nat) x y, rs[i]? = some x → vs[i]? = some y → VR G' x y
  | [], [], K, h, _, _ => ⟨[], h, rfl, fun i x y hx => by simp at hx⟩
  | [], _ :: _, K, h, hl, _ => by simp at hl
  | _ :: _, [], K, h, hl, _ => by simp at hl
  | x :: l, v :: vs, K, h, hl, hr => by
    obtain ⟨r, h, hrr⟩ := hF x v _ h (hr 0 x v rfl rfl)
    obtain ⟨rs, h1, h2, h3⟩ := frzL_sound hF l vs _ h (by simpa using hl) (fun i x y hx hy => hr (i + 1) x y (by simpa using hx) (by simpa using hy))
    refine ⟨r :: rs, h1, by simp [h2], fun i x y hx hy => ?_⟩
    cases i with
    | zero => simp at hx hy; subst hx hy; exact hrr
    | succ i => exact h3 i x y (by simpa using hx) (by simpa using hy)

theorem frz1_sound {x : TV} {y : Value} {K : V → Prop} (h : frz1 hp x K) (hi : Inv Mine G hp T w) (hx : TR G x y) : ∃ r, K r ∧ VR (G.fzAll Mine w) r y := by
  unfold frz1 at h
  split at h
  · rename_i l
    cases hx with
    | agg _ vs hl ho hx =>
      obtain ⟨rs, h1, h2, h3⟩ := frzL_sound (fun x y K h hx => frz0_sound h hi hx) l vs _ h hl hx
      exact ⟨_, h1, .agg _ vs (by simpa using h2) ho (VR.mapP V.norm0 (fun _ _ h => h.norm0) h3)⟩
  · exact frz0_sound h hi hx

theorem frz_sound {x : TV} {y : Value} {K : V → Prop} (h : frz hp x K) (hi : Inv Mine G hp T w) (hx : TR G x y) : ∃ r, K r ∧ VR (G.fzAll Mine w) r y := by
  unfold frz at h
  split at h
  · rename_i l
    cases hx with
    | tup _ vs hl hx =>
      obtain ⟨rs, h1, h2, h3⟩ := frzL_sound (fun x y K h hx => frz1_sound h hi hx) l vs _ h hl hx
      exact ⟨_, h1, .tup _ vs h2 h3⟩
  · exact frz1_sound h hi hx

end
end Go.Proofs.Ytaaedebknacheaa.AB

set_option linter.unusedVariables false
set_option linter.unusedSimpArgs false
namespace Go.Proofs.Ytaaedebknacheaa.AB
open Go

/-- nothing on it -/
def XH.none : XH := ⟨0, fun _ => Option.none⟩

def xresT : List Xd → Type
  | [] => Unit
  | [c] => c.T
  | c :: d :: r => c.T × xresT (d :: r)

def xresVs : (l : List Xd) → xresT l → List TV
  | [], _ => []
  | [c], x => [c.enc x]
  | c :: d :: r, p => c.enc p.1 :: xresVs (d :: r) p.2

def xresV : (l : List Xd) → xresT l → TV
  | [], _ => .v (.tup [])
  | [c], x => c.enc x
  | c :: d :: r, p => TV.mkTup (c.enc p.1 :: xresVs (d :: r) p.2)

/-- the function turns these arguments, at this heap, into a result and a heap -/
def XC (P : Program) (f : FuncId) (cs : List Xd) (args : List TV) (X : XH) (Q : xresT cs → XH → Prop) : Prop :=
  ∀ (Mine : Mn) (G : Gh) (w : World) (vs : Array Value), Inv Mine G [some (.heap X)] ⟨0, []⟩ w → args.length = vs.size → (∀ (i : Nat) x y, args[i]? = some x → vs[i]? = some y → TR G x y) →
    Entered P f ∧ Calls P f vs w fun e w' => ∃ v p X' G', e = .returned v ∧ Q p X' ∧ TR G' (xresV cs p) v ∧ Inv Mine G' [some (.heap X')] ⟨0, []⟩ w' ∧ Fz G G' ∧ Lc 1 G G' ∧ Stp Mine w w'

theorem XC.mono {P : Program} {f : FuncId} {cs : List Xd} {args : List TV} {X : XH} {Q Q' : xresT cs → XH → Prop} (h : XC P f cs args X Q) (hq : ∀ p X', Q p X' → Q' p X') : XC P f cs args X Q' := by
  intro Mine G w vs hi hl hr
  obtain ⟨h1, h2⟩ := h Mine G w vs hi hl hr
  refine ⟨h1, h2.mono ?_⟩
  rintro e w' ⟨v, p, X', G', e1, e2, e3⟩
  exact ⟨v, p, X', G', e1, hq p X' e2, e3⟩

/-- the function reads the heap, and no more -/
def RC (P : Program) (f : FuncId) (cs : List Xd) (args : List TV) (X : XH) (p : xresT cs) : Prop := XC P f cs args X fun p' X' => p' = p ∧ X' = X

/-- what a result is given out as -/
def xout0 (hp : Hp) (x : TV) (K : TV → Prop) : Prop :=
  match x with
  | .ref x c e p => K (.ref x c e p)
  | .sl c x => K (.sl c x)
  | .mp kc vc x => K (.mp kc vc x)
  | x => frz0 hp x fun v => K (.v v)

def xoutL (F : TV → (TV → Prop) → Prop) : List TV → (List TV → Prop) → Prop
  | [], K => K []
  | x :: l, K => F x fun v => xoutL F l fun vs => K (v :: vs)

def xout1 (hp : Hp) (x : TV) (K : TV → Prop) : Prop :=
  match x with
  | .agg l => xoutL (xout0 hp) l fun vs => K (.agg vs)
  | x => xout0 hp x K

def Xd.decW (c : Xd) (x : TV) : Option c.T :=
  match x.isAg == c.isAgg with
  | true => c.dec x
  | false => none

def xdec1 (c : Xd) : List TV → Option c.T
  | [x] => c.decW x
  | _ => none

def xdecL : (cs : List Xd) → List TV → Option (xresT cs)
  | [], [] => some ()
  | [], _ :: _ => none
  | [c], l => xdec1 c l
  | _ :: _ :: _, [] => none
  | c :: d :: r, x :: l => match c.decW x, xdecL (d :: r) l with
    | some a, some p => some (a, p)
    | _, _ => none

def xretL (cs : List Xd) (x : TV) : List TV :=
  match cs with
  | [_] => [x]
  | _ => match x with
    | .tup l => l
    | x => [x]

def xfin (cs : List Xd) (Q : xresT cs → XH → Prop) (x : TV) (s : St) : Prop :=
  xoutL (xout1 s.hp) (xretL cs x) fun rs => match hpX s.hp, xdecL cs rs with
    | some X, some p => Q p X
    | _, _ => False

/-- arguments: data and what leads to the heap -/
def TV.xn0 : TV → Option TV
  | .v x => match x.norm0.nt with
    | true => some (.v x.norm0)
    | false => none
  | .ref x c e p => some (.ref x c e p)
  | .sl c x => some (.sl c x)
  | .mp kc vc x => some (.mp kc vc x)
  | _ => none

def xnL : List TV → Option (List TV)
  | [] => some []
  | x :: l => match x.xn0, xnL l with
    | some y, some r => some (y :: r)
    | _, _ => none

def TV.xn : TV → Option TV
  | .v x => match x.norm1.nt with
    | true => some (.v x.norm1)
    | false => none
  | .agg l => match xnL l with
    | some l => some (.agg l)
    | none => none
  | x => x.xn0

def xnArgs : List TV → Option (List TV)
  | [] => some []
  | x :: l => match x.xn, xnArgs l with
    | some y, some r => some (y :: r)
    | _, _ => none

section
variable {P : Program} {tt : TT} {Mine : Mn} {G : Gh} {s : St} {a : Act} {w : World} {hp : Hp} {T : Toks}

/-- values that hang on the heap alone -/
def Gh.bareX (G : Gh) : Gh := ⟨G.cell, G.mp, fun _ => none, fun i g => if i = 0 then G.loc 0 g else none⟩

inductive OkX : TV → Prop where
  | v (x : V) (h : x.nt = true) : OkX (.v x)
  | ref (x c e p) : OkX (.ref x c e p)
  | sl (c x) : OkX (.sl c x)
  | mp (kc vc x) : OkX (.mp kc vc x)
  | agg (l : List TV) (h : ∀ x ∈ l, OkX x) : OkX (.agg l)
  | tup (l : List TV) (h : ∀ x ∈ l, OkX x) : OkX (.tup l)

theorem bare_fz0 : Fz0 G.bare G.bareX := ⟨fun _ _ _ h => h, fun _ _ h => h, fun _ _ h => by cases h⟩

theorem TR.bareX {x : TV} {y : Value} (h : TR G x y) : OkX x → TR G.bareX x y := by
  have L : ∀ {g : Nat} {x}, G.loc 0 g = some x → G.bareX.loc 0 g = some x := fun h => by simpa [Gh.bareX] using h
  induction h with
  | v x y h => intro ho; cases ho with | v _ hn => exact .v _ _ ((h.bare hn).mono bare_fz0)
  | ref0 c e p => intro _; exact .ref0 c e p
  | ref h c e p b ct hl hp => intro _; exact .ref h c e p b ct (L hl) hp
  | sl0 c => intro _; exact .sl0 c
  | sl s c b ct o hl h1 h2 ho => intro _; exact .sl s c b ct o (L hl) h1 h2 ho
  | mp0 kc vc => intro _; exact .mp0 kc vc
  | mp h kc vc b sz ct hl => intro _; exact .mp h kc vc b sz ct (L hl)
  | agg l vs hl ho h ih => intro hk; cases hk with | agg _ hk => exact .agg l vs hl ho fun i x y hx hy => ih i x y hx hy (hk x (List.mem_of_getElem? hx))
  | tup l vs hl h ih => intro hk; cases hk with | tup _ hk => exact .tup l vs hl fun i x y hx hy => ih i x y hx hy (hk x (List.mem_of_getElem? hx))
  | _ => intro ho; cases ho

theorem Xd.cells_ok : ∀ (c : Xd) (x : c.T), ∀ y ∈ c.cells x, OkX y
  | .pure c, x, y, h => by
    simp only [Xd.cells, List.mem_map] at h
    obtain ⟨z, hz, rfl⟩ := h
    exact .v _ (Cd.cells_nt c x z hz)
  | .ref _, _, y, h => by simp [Xd.cells] at h; subst h; exact .ref ..
  | .sl _, _, y, h => by simp [Xd.cells] at h; subst h; exact .sl ..
  | .mp _ _, _, y, h => by simp [Xd.cells] at h; subst h; exact .mp ..
  | .pair a b, p, y, h => by
    simp only [Xd.cells, List.mem_append] at h
    rcases h with h | h
    · exact Xd.cells_ok a _ y h
    · exact Xd.cells_ok b _ y h
  | .vec n a, f, y, h => by
    simp only [Xd.cells, List.mem_flatMap] at h
    obtain ⟨i, _, h⟩ := h
    exact Xd.cells_ok a _ y h

theorem okX_v {x : V} (h : OkX (.v x)) : x.nt = true := by cases h; assumption

theorem mkAgg_ok {l : List TV} (h : ∀ x ∈ l, OkX x) : OkX (TV.mkAgg l) := by
  unfold TV.mkAgg
  split
  · rename_i vs hv
    have := allV_some hv
    subst this
    refine .v _ ?_
    unfold V.nt
    exact ntL_of fun x hx => okX_v (h (.v x) (List.mem_map_of_mem hx))
  · exact .agg l h

theorem mkTup_ok {l : List TV} (h : ∀ x ∈ l, OkX x) : OkX (TV.mkTup l) := by
  unfold TV.mkTup
  split
  · rename_i vs hv
    have := allV_some hv
    subst this
    refine .v _ ?_
    unfold V.nt
    exact ntL_of fun x hx => okX_v (h (.v x) (List.mem_map_of_mem hx))
  · exact .tup l h

theorem Xd.enc_ok (c : Xd) (x : c.T) : OkX (c.enc x) := by
  cases c with
  | pure c => exact .v _ (Cd.enc_nt c x)
  | ref c => exact .ref ..
  | sl c => exact .sl ..
  | mp kc vc => exact .mp ..
  | pair a b => exact mkAgg_ok (Xd.cells_ok (.pair a b) x)
  | vec n a => exact mkAgg_ok (Xd.cells_ok (.vec n a) x)

theorem xresVs_ok : ∀ (cs : List Xd) (p : xresT cs), ∀ x ∈ xresVs cs p, OkX x
  | [], _, x, h => by simp [xresVs] at h
  | [c], p, x, h => by simp only [xresVs, List.mem_singleton] at h; subst h; exact c.enc_ok p
  | c :: d :: r, p, x, h => by
    simp only [xresVs, List.mem_cons] at h
    rcases h with rfl | h
    · exact c.enc_ok p.1
    · exact xresVs_ok (d :: r) p.2 x h

theorem xresV_ok (cs : List Xd) (p : xresT cs) : OkX (xresV cs p) := by
  match cs, p with
  | [], _ => exact .v _ rfl
  | [c], p => exact c.enc_ok p
  | c :: d :: r, p => exact mkTup_ok (xresVs_ok (c :: d :: r) p)

/-- arguments, told without tokens -/
theorem xn0_R {x z : TV} {y : Value} (h : x.xn0 = some z) (hx : TR G x y) : TR G z y ∧ OkX z := by
  unfold TV.xn0 at h
  split at h
  · split at h
    · rename_i hn
      cases h
      cases hx with | v _ _ hx => exact ⟨.v _ _ hx.norm0, .v _ hn⟩
    · cases h
  · cases h; exact ⟨hx, .ref ..⟩
  · cases h; exact ⟨hx, .sl ..⟩
  · cases h; exact ⟨hx, .mp ..⟩
  · cases h

theorem xnL_R : ∀ {l r : List TV} {vs : List Value}, xnL l = some r → l.length = vs.length → (∀ (i : Nat) x y, l[i]? = some x → vs[i]? = some y → TR G x y) →
    r.length = vs.length ∧ (∀ (i : Nat) x y, r[i]? = some x → vs[i]? = some y → TR G x y) ∧ ∀ x ∈ r, OkX x
  | [], r, [], h, _, _ => by simp only [xnL, Option.some.injEq] at h; subst h; exact ⟨rfl, fun i x y hx => by simp at hx, by simp⟩
  | [], _, _ :: _, _, hl, _ => by simp at hl
  | _ :: _, _, [], _, hl, _ => by simp at hl
  | x :: l, r, v :: vs, h, hl, hr => by
    simp only [xnL] at h
    split at h
    · rename_i y r' h1 h2
      cases h
      obtain ⟨q1, q2⟩ := xn0_R h1 (hr 0 x v rfl rfl)
      obtain ⟨k1, k2, k3⟩ := xnL_R h2 (by simpa using hl) (fun i x y hx hy => hr (i + 1) x y (by simpa using hx) (by simpa using hy))
      refine ⟨by simp [k1], fun i x' y' hx hy => ?_, fun x hx => ?_⟩
      · cases i with
        | zero => simp at hx hy; subst hx hy; exact q1
        | succ i => exact k2 i x' y' (by simpa using hx) (by simpa using hy)
      · rcases List.mem_cons.1 hx with rfl | hx
        · exact q2
        · exact k3 x hx
    · cases h

theorem xn_R {x z : TV} {y : Value} (h : x.xn = some z) (hx : TR G x y) : TR G z y ∧ OkX z := by
  unfold TV.xn at h
  split at h
  · split at h
    · rename_i hn
      cases h
      cases hx with | v _ _ hx => exact ⟨.v _ _ hx.norm1, .v _ hn⟩
    · cases h
  · split at h
    · rename_i l r hl
      cases h
      cases hx with | agg _ vs hlen ho hp =>
      obtain ⟨k1, k2, k3⟩ := xnL_R hl hlen hp
      exact ⟨.agg r vs k1 ho k2, .agg r k3⟩
    · cases h
  · exact xn0_R h hx

theorem xnArgs_R : ∀ {l r : List TV} {vs : List Value}, xnArgs l = some r → l.length = vs.length → (∀ (i : Nat) x y, l[i]? = some x → vs[i]? = some y → TR G x y) →
    r.length = vs.length ∧ (∀ (i : Nat) x y, r[i]? = some x → vs[i]? = some y → TR G x y) ∧ ∀ x ∈ r, OkX x
  | [], r, [], h, _, _ => by simp only [xnArgs, Option.some.injEq] at h; subst h; exact ⟨rfl, fun i x y hx => by simp at hx, by simp⟩
  | [], _, _ :: _, _, hl, _ => by simp at hl
  | _ :: _, _, [], _, hl, _ => by simp at hl
  | x :: l, r, v :: vs, h, hl, hr => by
    simp only [xnArgs] at h
    split at h
    · rename_i y r' h1 h2
      cases h
      obtain ⟨q1, q2⟩ := xn_R h1 (hr 0 x v rfl rfl)
      obtain ⟨k1, k2, k3⟩ := xnArgs_R h2 (by simpa using hl) (fun i x y hx hy => hr (i + 1) x y (by simpa using hx) (by simpa using hy))
      refine ⟨by simp [k1], fun i x' y' hx hy => ?_, fun x hx => ?_⟩
      · cases i with
        | zero => simp at hx hy; subst hx hy; exact q1
        | succ i => exact k2 i x' y' (by simpa using hx) (by simpa using hy)
      · rcases List.mem_cons.1 hx with rfl | hx
        · exact q2
        · exact k3 x hx
    · cases h

end
end Go.Proofs.Ytaaedebknacheaa.AB

set_option linter.unusedVariables false
set_option linter.unusedSimpArgs false
namespace Go.Proofs.Ytaaedebknacheaa.AB
open Go

section
variable {P : Program} {tt : TT} {Mine : Mn} {G : Gh} {s : St} {a : Act} {w w' : World} {hp : Hp} {T : Toks} {X X' : XH}

/-- the blocks that a call may turn: new ones, those of the heap -/
def mnX (G : Gh) (X : XH) (w : World) : Mn := ⟨fun b => w.heap.size ≤ b ∨ Owns G 0 (.heap X) b, G.cell, G.mp⟩

theorem Inv.small (hi : Inv Mine G hp T w) (h0 : hp[0]? = some (some (.heap X))) : Inv (mnX G X w) G.bareX [some (.heap X)] ⟨0, []⟩ w := by
  obtain ⟨-, h1, h2, h3⟩ := hi.xor h0
  have e1 : ∀ g, G.bareX.loc 0 g = G.loc 0 g := fun g => by simp [Gh.bareX]
  have hget : ∀ i o, ([some (.heap X)] : Hp)[i]? = some (some o) → i = 0 ∧ o = .heap X := by
    intro i o h
    match i with
    | 0 => simp at h; exact ⟨rfl, h.symm⟩
    | i + 1 => simp at h
  refine ⟨hi.cells, hi.mps, fun i o h => ?_, fun i j o o' b hij h h' => ?_, fun t ht => by simp at ht, fun t ht => by simp at ht, fun t ht => by simp at ht, fun i g hig => ?_, fun i o g h hg => ?_, fun n _ => rfl,
    fun b hb => .inl hb, fun b o v hc => .inr hc, fun r e hm => .inr hm⟩
  · obtain ⟨rfl, rfl⟩ := hget i o h
    refine ⟨rfl, fun h hh => ⟨(h1 h hh).1, by rw [e1]; exact (h1 h hh).2⟩, fun k o ho => ?_, fun k k' b sz ct sz' ct' hne n1 n2 l1 l2 => h3 k k' b sz ct sz' ct' hne n1 n2 (by rw [← e1]; exact l1) (by rw [← e1]; exact l2)⟩
    have hk : X.f k ≠ none := by rw [ho]; simp
    cases o with
    | arr c l =>
      obtain ⟨b, q1, q2, q3, cur, el, q4, q5, q6⟩ := h2 k _ ho
      refine ⟨b, by rw [e1]; exact q1, .inr ⟨k, _, _, hk, q1⟩, q3, cur, el, q4, q5, fun e x hx j y hy => ?_⟩
      obtain ⟨u, r1, r2, r3⟩ := q6 e x hx j y hy
      exact ⟨u, r1, r2.bareX (Xd.cells_ok c x y (List.mem_of_getElem? hy)), r3⟩
    | map kc vc es =>
      obtain ⟨b, sz, ct, q1, q2, q3, ents, ck, q4, q5, q6, q7⟩ := h2 k _ ho
      refine ⟨b, sz, ct, by rw [e1]; exact q1, .inr ⟨k, _, _, hk, q1⟩, q3, ents, ck, q4, q5, fun j e m he hm => ⟨?_, (q6 j e m he hm).2.bareX (vc.enc_ok e.2)⟩, q7⟩
      exact ((q6 j e m he hm).1.bare (Cd.enc_nt kc e.1)).mono bare_fz0
  · obtain ⟨rfl, _⟩ := hget i o h
    obtain ⟨rfl, _⟩ := hget j o' h'
    exact absurd rfl hij
  · have hig : 1 ≤ i := hig
    simp only [Gh.bareX]
    rw [if_neg (by omega)]
  · obtain ⟨rfl, rfl⟩ := hget i o h
    rw [e1]
    simp only [O.gen] at hg
    exact (h1 g (by omega)).2

/-- a call that turns the heap, seen by its caller -/
theorem Inv.xcall {G' : Gh} (hi : Inv Mine G hp T w) (h0 : hp[0]? = some (some (.heap X))) (hi' : Inv (mnX G X w) G' [some (.heap X')] ⟨0, []⟩ w') (hf : Fz G.bareX G') (hl : Lc 1 G.bareX G')
    (hs : Stp (mnX G X w) w w') : ∃ G2, Inv Mine G2 (hp.set 0 (some (.heap X'))) T w' ∧ Fz G G2 ∧ Lc hp.length G G2 ∧ Stp Mine w w' ∧ ∀ x y, OkX x → TR G' x y → TR G2 x y := by
  have h0l : 0 < hp.length := (List.getElem?_eq_some_iff.1 h0).1
  have h0' : ([some (.heap X')] : Hp)[0]? = some (some (.heap X')) := rfl
  have hor := hi.xor h0
  obtain ⟨-, h1, h2, h3⟩ := hi'.xor h0'
  obtain ⟨G2, hG2⟩ : ∃ G2 : Gh, G2 = ⟨G'.cell, G'.mp, G.tok, fun i g => if i = 0 then G'.loc 0 g else G.loc i g⟩ := ⟨_, rfl⟩
  have e0 : ∀ g, G2.loc 0 g = G'.loc 0 g := fun g => by subst hG2; simp
  have eo : ∀ i g, i ≠ 0 → G2.loc i g = G.loc i g := fun i g h => by subst hG2; simp [h]
  have et : G2.tok = G.tok := by subst hG2; rfl
  have ec : G2.cell = G'.cell := by subst hG2; rfl
  have em : G2.mp = G'.mp := by subst hG2; rfl
  have hmine : ∀ b, (mnX G X w) b → Mine b := by
    rintro b (h | h)
    · exact hi.mine b h
    · exact (hor.blk h).1
  have hnot : ∀ b, b < w.heap.size → ¬ Owns G 0 (.heap X) b → ¬ (mnX G X w) b := by
    rintro b h1 h2 (h | h)
    · omega
    · exact h2 h
  have hnew : (∀ b o v, G'.cell b o = some v → (mnX G X w) b ∨ G.cell b o = some v) ∧ ∀ r e, G'.mp r = some e → (mnX G X w) r ∨ G.mp r = some e := hi'.old
  have hfz : Fz G G2 := ⟨fun b o v h => by rw [ec]; exact hf.cell b o v h, fun r e h => by rw [em]; exact hf.mp r e h, fun n x h => by rw [et]; exact h, fun t t' x hlt h hn => by rw [et]; exact hn⟩
  have hlc : Lc hp.length G G2 := by
    intro i hil g x hx
    by_cases e : i = 0
    · subst e
      rw [e0]
      exact hl 0 (by omega) g x (by simpa [Gh.bareX] using hx)
    · rw [eo i g e]; exact hx
  have hpriv : ∀ b, ¬ (mnX G X w) b → G.priv b → G2.priv b := by
    intro b hb hp'
    refine ⟨fun o => ?_, ?_⟩
    · cases hc : G2.cell b o with
      | none => rfl
      | some v =>
        rw [ec] at hc
        rcases hnew.1 b o v hc with h | h
        · exact absurd h hb
        · rw [hp'.1 o] at h; cases h
    · cases hc : G2.mp b with
      | none => rfl
      | some e =>
        rw [em] at hc
        rcases hnew.2 b e hc with h | h
        · exact absurd h hb
        · rw [hp'.2] at h; cases h
  have tr : ∀ x y, OkX x → TR G' x y → TR G2 x y := by
    intro x y ho h
    have := h.bareX ho
    refine TR.mono (n := 1) (fun i g hig => by simp only [Gh.bareX]; rw [if_neg (by omega)]) ⟨fun b o v h => by rw [ec]; exact h, fun r e h => by rw [em]; exact h, fun n x h => by cases h⟩ (fun i hi g x hx => ?_) this
    have : i = 0 := by omega
    subst this
    rw [e0]; simpa [Gh.bareX] using hx
  have hset : ∀ j p, (hp.set 0 (some (.heap X')))[j]? = some (some p) → (j ≠ 0 ∧ hp[j]? = some (some p)) ∨ (j = 0 ∧ p = .heap X') := by
    intro j p hj
    rw [List.getElem?_set] at hj
    split at hj
    · rename_i e
      first
        | (rw [if_pos (by omega)] at hj; cases hj; exact .inr ⟨e.symm, rfl⟩)
        | (cases hj; exact .inr ⟨e.symm, rfl⟩)
    · rename_i e
      exact .inl ⟨fun e' => e e'.symm, hj⟩
  have ownO : ∀ j p b, j ≠ 0 → Owns G2 j p b → Owns G j p b := by
    rintro j p b hj ⟨g, s, c, k1, k2⟩
    exact ⟨g, s, c, k1, by rw [eo j g hj] at k2; exact k2⟩
  have own0 : ∀ b, Owns G2 0 (.heap X') b → (mnX G X w) b := by
    rintro b ⟨g, s, c, k1, k2⟩
    rw [e0] at k2
    exact ((hi'.xor h0').blk ⟨g, s, c, k1, k2⟩).1
  have other : ∀ j p b, j ≠ 0 → hp[j]? = some (some p) → Owns G j p b → b < w.heap.size ∧ ¬ (mnX G X w) b := by
    intro j p b hj hjp ho
    have hlt := ((hi.objs j p hjp).blk ho).2.2
    exact ⟨hlt, hnot b hlt fun h => hi.inj j 0 p _ b hj hjp h0 ho h⟩
  have tokb : ∀ t ∈ T.l, ∀ b e c, G.tok t = some (some b, e, c) → b < w.heap.size ∧ ¬ (mnX G X w) b := by
    intro t ht b e c hb
    obtain ⟨bo, e', c', k1, k2⟩ := hi.toks t ht
    rw [hb] at k1; cases k1
    obtain ⟨_, ⟨cur, el, q3, _⟩, _⟩ := k2 b rfl
    have hlt := heap_lt q3
    exact ⟨hlt, hnot b hlt fun h => hi.tobj t ht 0 _ b e c hb h0 h⟩
  refine ⟨G2, ⟨fun b o v h => hi'.cells b o v (by rw [← ec]; exact h), fun r e h => hi'.mps r e (by rw [← em]; exact h), fun j p hj => ?_, fun i j oi oj b hij hio hjo li lj => ?_, fun t ht => ?_, fun t ht i p b e c h hio hl' => ?_, ?_, ?_, ?_, ?_, ?_, ?_⟩,
    hfz, hlc, ⟨hs.os, hs.tape, hs.output, hs.size, fun k hk => hs.block k fun h => hk (hmine k h)⟩, tr⟩
  · rcases hset j p hj with ⟨k1, k2⟩ | ⟨rfl, rfl⟩
    · refine (hi.objs j p k2).keep hi.lb hfz hlc (fun b hb => ?_) (fun _ _ g _ => eo j g k1)
      obtain ⟨_, q2⟩ := other j p b k1 k2 hb
      exact ⟨hs.block b q2, hpriv b q2⟩
    · refine ⟨rfl, fun h hh => ⟨(h1 h hh).1, by rw [e0]; exact (h1 h hh).2⟩, fun k o ho => ?_, fun k k' b sz ct sz' ct' hne n1 n2 l1 l2 => h3 k k' b sz ct sz' ct' hne n1 n2 (by rw [← e0]; exact l1) (by rw [← e0]; exact l2)⟩
      have pr : ∀ b, G'.priv b → G2.priv b := fun b h => ⟨fun o => by rw [ec]; exact h.1 o, by rw [em]; exact h.2⟩
      cases o with
      | arr c l =>
        obtain ⟨b, q1, q2, q3, cur, el, q4, q5, q6⟩ := h2 k _ ho
        refine ⟨b, by rw [e0]; exact q1, hmine b q2, pr b q3, cur, el, q4, q5, fun e x hx j y hy => ?_⟩
        obtain ⟨u, r1, r2, r3⟩ := q6 e x hx j y hy
        exact ⟨u, r1, tr _ _ (Xd.cells_ok c x y (List.mem_of_getElem? hy)) r2, r3⟩
      | map kc vc es =>
        obtain ⟨b, sz, ct, q1, q2, q3, ents, ck, q4, q5, q6, q7⟩ := h2 k _ ho
        refine ⟨b, sz, ct, by rw [e0]; exact q1, hmine b q2, pr b q3, ents, ck, q4, q5, fun j e m he hm => ⟨?_, tr _ _ (vc.enc_ok e.2) (q6 j e m he hm).2⟩, q7⟩
        exact ((q6 j e m he hm).1.bare (Cd.enc_nt kc e.1)).mono ⟨fun b o v h => by rw [ec]; exact h, fun r e h => by rw [em]; exact h, fun _ _ h => by cases h⟩
  · have main : ∀ j p, j ≠ 0 → hp[j]? = some (some p) → ∀ b, Owns G j p b → Owns G2 0 (.heap X') b → False := by
      intro j p hj hjp b l1 l2
      exact (other j p b hj hjp l1).2 (own0 b l2)
    rcases hset i oi hio with ⟨k1, k2⟩ | ⟨e1, e2⟩
    · rcases hset j oj hjo with ⟨q1, q2⟩ | ⟨e3, e4⟩
      · exact hi.inj i j oi oj b hij k2 q2 (ownO _ _ _ k1 li) (ownO _ _ _ q1 lj)
      · subst e3 e4; exact main i oi k1 k2 b (ownO _ _ _ k1 li) lj
    · subst e1 e2
      rcases hset j oj hjo with ⟨q1, q2⟩ | ⟨e3, e4⟩
      · exact main j oj q1 q2 b (ownO _ _ _ q1 lj) li
      · exact hij e3.symm
  · obtain ⟨bo, e, c, k1, k2⟩ := hi.toks t ht
    refine ⟨bo, e, c, by rw [et]; exact k1, fun b hb => ?_⟩
    obtain ⟨q1, ⟨cur, el, q2, q3⟩, q4, q5⟩ := k2 b hb
    subst hb
    obtain ⟨r1, r2⟩ := tokb t ht b e c k1
    refine ⟨q1, ⟨cur, el, by rw [hs.block b r2]; exact q2, q3⟩, fun o ho => ?_, ?_⟩
    · cases hc : G2.cell b o with
      | none => rfl
      | some v =>
        rw [ec] at hc
        rcases hnew.1 b o v hc with h | h
        · exact absurd h r2
        · rw [q4 o ho] at h; cases h
    · cases hc : G2.mp b with
      | none => rfl
      | some e =>
        rw [em] at hc
        rcases hnew.2 b e hc with h | h
        · exact absurd h r2
        · rw [q5] at h; cases h
  · rw [et] at h
    rcases hset i p hio with ⟨q1, q2⟩ | ⟨e1, e2⟩
    · exact hi.tobj t ht i p b e c h q2 (ownO _ _ _ q1 hl')
    · subst e1 e2
      exact (tokb t ht b e c h).2 (own0 b hl')
  · rw [et]; exact hi.tinj
  · intro i g hig
    simp only [List.length_set] at hig
    rw [eo i g (by omega)]; exact hi.lb i g hig
  · intro i p g hio hg
    rcases hset i p hio with ⟨q1, q2⟩ | ⟨e1, e2⟩
    · rw [eo i g q1]; exact hi.gens i p g q2 hg
    · subst e1 e2
      rw [e0]
      simp only [O.gen] at hg
      exact (h1 g (by omega)).2
  · intro n hn; rw [et]; exact hi.tfin n hn
  · intro b hb; exact hi.mine b (Nat.le_trans hs.size hb)
  · refine ⟨fun b o v h => ?_, fun r e h => ?_⟩
    · rw [ec] at h
      rcases hnew.1 b o v h with q | q
      · exact .inl (hmine b q)
      · exact hi.old.1 b o v q
    · rw [em] at h
      rcases hnew.2 r e h with q | q
      · exact .inl (hmine r q)
      · exact hi.old.2 r e q

/-- the heap alone, at a function's end -/
theorem Inv.behind {hp : Hp} (hi : Inv Mine G (some (.heap X) :: hp) T w) : Inv ⟨fun b => Mine b ∧ ¬ Owns G 0 (.heap X) b, G.cell, G.mp⟩ G (none :: hp) T w := by
  have h0 : (some (.heap X) :: hp)[0]? = some (some (.heap X)) := rfl
  have hget : ∀ i o, (none :: hp : Hp)[i]? = some (some o) → i ≠ 0 ∧ (some (.heap X) :: hp : Hp)[i]? = some (some o) := by
    intro i o h
    cases i with
    | zero => simp at h
    | succ i => exact ⟨by omega, by simpa using h⟩
  have own : ∀ i o b, (none :: hp : Hp)[i]? = some (some o) → Owns G i o b → Mine b ∧ ¬ Owns G 0 (.heap X) b := by
    intro i o b h ho
    obtain ⟨h1, h2⟩ := hget i o h
    exact ⟨((hi.objs i o h2).blk ho).1, fun q => hi.inj i 0 o _ b h1 h2 h0 ho q⟩
  refine ⟨hi.cells, hi.mps, fun i o h => ?_, fun i j o o' b hij h h' l l' => hi.inj i j o o' b hij (hget i o h).2 (hget j o' h').2 l l', fun t ht => ?_,
    fun t ht i o b e c h1 h l => hi.tobj t ht i o b e c h1 (hget i o h).2 l, hi.tinj, ?_, fun i o g h hg => hi.gens i o g (hget i o h).2 hg, hi.tfin, fun b hb => ⟨hi.mine b hb, fun h => ?_⟩, fun b o v h => .inr h, fun r e h => .inr h⟩
  · have hb := fun b ho => own i o b h ho
    have := hi.objs i o (hget i o h).2
    cases o with
    | heap X2 => exact absurd this.1 (hget i _ h).1
    | box x =>
      obtain ⟨b, sz, ct, h1, h2, h3⟩ := this
      exact ⟨b, sz, ct, h1, hb b ⟨0, sz, ct, rfl, h1⟩, h3⟩
    | arr g c l ts =>
      obtain ⟨bo, ct, h1, hle, h2⟩ := this
      refine ⟨bo, ct, h1, hle, ?_⟩
      cases bo with
      | none => exact h2
      | some b => exact ⟨hb b ⟨g, _, ct, rfl, h1⟩, h2.2⟩
    | map kc vc es =>
      obtain ⟨b, sz, ct, h1, h2, h3⟩ := this
      exact ⟨b, sz, ct, h1, hb b ⟨0, sz, ct, rfl, h1⟩, h3⟩
    | siter s p => exact this.elim
  · obtain ⟨bo, e, c, k1, k2⟩ := hi.toks t ht
    refine ⟨bo, e, c, k1, fun b hb => ?_⟩
    obtain ⟨q1, q2⟩ := k2 b hb
    subst hb
    exact ⟨⟨q1, fun h => hi.tobj t ht 0 _ b e c k1 h0 h⟩, q2⟩
  · have := hi.lb
    simpa using this
  · have := ((hi.xor h0).blk h).2.2; omega

theorem xout0_sound {hp : Hp} {x : TV} {K : TV → Prop} (h : xout0 (some (.heap X) :: hp) x K) {G' : Gh} (hi : Inv Mine G (some (.heap X) :: hp) T w)
    (hG : G' = G.fzAll ⟨fun b => Mine b ∧ ¬ Owns G 0 (.heap X) b, G.cell, G.mp⟩ w) {y : Value} (hx : TR G x y) : ∃ r, K r ∧ TR G' r y := by
  have fz : ∀ {x : TV}, frz0 (some (.heap X) :: hp) x (fun v => K (.v v)) → TR G x y → ∃ r, K r ∧ TR G' r y := by
    intro x h hx
    have h' : frz0 (none :: hp) x (fun v => K (.v v)) := by
      unfold frz0 at h ⊢
      cases x with
      | v x => exact h
      | arr i g off len => cases i with
        | zero => exact h
        | succ i => exact h
      | mapr i => cases i with
        | zero => exact h
        | succ i => exact h
      | ptr i g e f => cases i with
        | zero =>
          cases g <;> first | exact h | skip
          cases e <;> exact h
        | succ i => exact h
      | _ => exact h
    obtain ⟨r, k1, k2⟩ := frz0_sound h' hi.behind hx
    exact ⟨.v r, k1, .v _ _ (by rw [hG]; exact k2)⟩
  have keep : ∀ {x : TV}, TR G x y → TR G' x y := fun h => by
    subst hG
    exact h.mono hi.lb fzAll_fz.f0 (fun i _ g x h => h)
  unfold xout0 at h
  split at h
  · exact ⟨_, h, keep hx⟩
  · exact ⟨_, h, keep hx⟩
  · exact ⟨_, h, keep hx⟩
  · exact fz h hx

theorem xoutL_sound {F : TV → (TV → Prop) → Prop} {G' : Gh} (hF : ∀ x y K, F x K → TR G x y → ∃ r, K r ∧ TR G' r y) : ∀ (l : List TV) (vs : List Value) (K : List TV → Prop), xoutL F l K → l.length = vs.length →
    (∀ (i : Nat) x y, l[i]? = some x → vs[i]? = some y → TR G x y) → ∃ rs, K rs ∧ rs.length = vs.length ∧ ∀ (i : Nat) x y, rs[i]? = some x → vs[i]? = some y → TR G' x y
  | [], [], K, h, _, _ => ⟨[], h, rfl, fun i x y hx => by simp at hx⟩
  | [], _ :: _, K, h, hl, _ => by simp at hl
  | _ :: _, [], K, h, hl, _ => by simp at hl
  | x :: l, v :: vs, K, h, hl, hr => by
    obtain ⟨r, h, hrr⟩ := hF x v _ h (hr 0 x v rfl rfl)
    obtain ⟨rs, h1, h2, h3⟩ := xoutL_sound hF l vs _ h (by simpa using hl) (fun i x y hx hy => hr (i + 1) x y (by simpa using hx) (by simpa using hy))
    refine ⟨r :: rs, h1, by simp [h2], fun i x y hx hy => ?_⟩
    cases i with
    | zero => simp at hx hy; subst hx hy; exact hrr
    | succ i => exact h3 i x y (by simpa using hx) (by simpa using hy)

theorem xout1_sound {hp : Hp} {x : TV} {K : TV → Prop} (h : xout1 (some (.heap X) :: hp) x K) {G' : Gh} (hi : Inv Mine G (some (.heap X) :: hp) T w)
    (hG : G' = G.fzAll ⟨fun b => Mine b ∧ ¬ Owns G 0 (.heap X) b, G.cell, G.mp⟩ w) {y : Value} (hx : TR G x y) : ∃ r, K r ∧ TR G' r y := by
  unfold xout1 at h
  split at h
  · cases hx with | agg l vs hl ho hp =>
    obtain ⟨rs, h1, h2, h3⟩ := xoutL_sound (fun x y K h hx => xout0_sound h hi hG hx) _ vs _ h hl hp
    exact ⟨_, h1, .agg rs vs h2 ho h3⟩
  · exact xout0_sound h hi hG hx

theorem xoutL_ex {F : TV → (TV → Prop) → Prop} (hF : ∀ x K, F x K → ∃ y, K y) : ∀ (l : List TV) (K : List TV → Prop), xoutL F l K → ∃ rs, rs.length = l.length ∧ K rs
  | [], K, h => ⟨[], rfl, h⟩
  | x :: l, K, h => by
    obtain ⟨y, hy⟩ := hF _ _ h
    obtain ⟨rs, h1, h2⟩ := xoutL_ex hF l _ hy
    exact ⟨y :: rs, by simp [h1], h2⟩

theorem xout0_ex {hp : Hp} (x : TV) (K : TV → Prop) (h : xout0 hp x K) : ∃ y, K y := by
  unfold xout0 at h
  split at h <;> first | exact ⟨_, h⟩ | skip
  unfold frz0 at h
  split at h
  · exact ⟨_, h⟩
  · split at h
    · exact ⟨_, h.2.2⟩
    · exact h.elim
  · split at h
    · exact ⟨_, h⟩
    · exact h.elim
  · split at h
    · exact ⟨_, h⟩
    · exact h.elim
  · exact h.elim

theorem xout1_ex {hp : Hp} (x : TV) (K : TV → Prop) (h : xout1 hp x K) : ∃ y, K y := by
  unfold xout1 at h
  split at h
  · obtain ⟨rs, _, h⟩ := xoutL_ex xout0_ex _ _ h
    exact ⟨_, h⟩
  · exact xout0_ex _ _ h

theorem decW_R {c : Xd} {x : TV} {a : c.T} (h : c.decW x = some a) {y : Value} (hx : TR G x y) : TR G (c.enc a) y := by
  unfold Xd.decW at h
  split at h
  · rename_i hb
    exact dec_whole h (by simpa using hb) hx
  · cases h

theorem xdecL_R : ∀ (cs : List Xd) (rs : List TV) (vs : List Value) (p : xresT cs), xdecL cs rs = some p → rs.length = vs.length → (∀ (i : Nat) x y, rs[i]? = some x → vs[i]? = some y → TR G x y) →
    cs.length = vs.length ∧ (xresVs cs p).length = vs.length ∧ ∀ (i : Nat) x y, (xresVs cs p)[i]? = some x → vs[i]? = some y → TR G x y
  | [], [], vs, p, h, hl, _ => by
    have : vs = [] := List.eq_nil_of_length_eq_zero (by simpa using hl.symm)
    subst this
    exact ⟨rfl, rfl, fun i x y hx => by simp [xresVs] at hx⟩
  | [], _ :: _, vs, p, h, hl, _ => by cases h
  | [c], rs, vs, p, h, hl, hr => by
    have h : xdec1 c rs = some p := h
    unfold xdec1 at h
    split at h
    · rename_i x
      cases vs with
      | nil => simp at hl
      | cons v vs =>
        have : vs = [] := List.eq_nil_of_length_eq_zero (by simpa using hl.symm)
        subst this
        refine ⟨rfl, rfl, fun i x' y hx hy => ?_⟩
        match i with
        | 0 =>
          have hx : some (c.enc p) = some x' := hx
          cases hx
          simp at hy; subst hy
          exact decW_R h (hr 0 _ v rfl rfl)
        | i + 1 => simp at hy
    · cases h
  | _ :: _ :: _, [], vs, p, h, hl, _ => by cases h
  | c :: d :: r, x :: l, [], p, h, hl, hr => by simp at hl
  | c :: d :: r, x :: l, v :: vs, p, h, hl, hr => by
    have h : (match c.decW x, xdecL (d :: r) l with
      | some a, some p => some (a, p)
      | _, _ => none) = some p := h
    cases h1 : c.decW x with
    | none => rw [h1] at h; cases h
    | some a =>
      cases h2 : xdecL (d :: r) l with
      | none => rw [h1, h2] at h; cases h
      | some q =>
        rw [h1, h2] at h
        have hp : p = (a, q) := by cases h; rfl
        subst hp
        obtain ⟨k0, k1, k2⟩ := xdecL_R (d :: r) l vs q h2 (by simpa using hl) (fun i x y hx hy => hr (i + 1) x y (by simpa using hx) (by simpa using hy))
        have e : xresVs (c :: d :: r) (a, q) = c.enc a :: xresVs (d :: r) q := rfl
        rw [e]
        refine ⟨by simp only [List.length_cons] at k0 ⊢; omega, by simp [k1], fun i x' y' hx hy => ?_⟩
        cases i with
        | zero => simp at hx hy; subst hx hy; exact decW_R h1 (hr 0 x v rfl rfl)
        | succ i => exact k2 i x' y' (by simpa using hx) (by simpa using hy)

end
end Go.Proofs.Ytaaedebknacheaa.AB

set_option linter.unusedVariables false
set_option linter.unusedSimpArgs false
namespace Go.Proofs.Ytaaedebknacheaa.AB
open Go

def mnOf (G : Gh) (w : World) : Mn := ⟨fun b => w.heap.size ≤ b, G.cell, G.mp⟩

/-- what a pure call comes to -/
def PCPost (G : Gh) (w : World) (r : V) (e : Ending) (w' : World) : Prop :=
  ∃ v G', e = .returned v ∧ VR G'.bare r v ∧ FzOK G' w' ∧ Fz G.bare G'.bare ∧
    ((∀ b o v, G'.cell b o = some v → w.heap.size ≤ b ∨ G.cell b o = some v) ∧ ∀ r e, G'.mp r = some e → w.heap.size ≤ r ∨ G.mp r = some e) ∧ Stp (mnOf G w) w w'

/-- the function turns these heap-free arguments into this heap-free result, and turns nothing that stood before -/
def PC (P : Program) (f : FuncId) (args : List V) (r : V) : Prop :=
  ∀ (G : Gh) (w : World) (vs : Array Value), FzOK G w → args.length = vs.size → (∀ (i : Nat) x y, args[i]? = some x → vs[i]? = some y → VR G.bare x y) →
    Entered P f ∧ Calls P f vs w (PCPost G w r)

/-- a variable that holds a result -/
def resCell (tt : TT) (a t : Nat) (s : St) : Option TV :=
  match (tt.at t).ok, s.tm.getD a tu with
  | true, .ptr i g e f => match g, e, f, s.hp.getD i none with
    | 0, 0, 0, some (.box x) => subTV (tt.at t).k.isAgg (tt.at t).size 0 x
    | _, _, _, _ => none
  | _, _ => none

def resTV (tt : TT) : List ResultVar → St → Option (List TV)
  | [], _ => some []
  | .tmp t :: r, s => match resTV tt r s with
    | some l => some (s.tm.getD t tu :: l)
    | none => none
  | .cell a t :: r, s => match resCell tt a t s, resTV tt r s with
    | some x, some l => some (x :: l)
    | _, _ => none

def res1 : List TV → TV
  | [x] => x
  | l => .tup l

def retK (tt : TT) (rs : List ResultVar) (K : TV → St → Prop) : Exit → St → Prop
  | .normal, s => match resTV tt rs s with
    | some l => K (res1 l) s
    | none => False
  | .ret, s => match resTV tt rs s with
    | some l => K (res1 l) s
    | none => False
  | _, _ => False

def fnK (tt : TT) (call : CallP) (md : Mds) (msk : Nat → List Bool × Nat) (fn : Func) (args : List TV) (s : St) (K : TV → St → Prop) : Prop :=
  match fn.body with
  | some c => awp tt call md s.hp.length msk 0 c (retK tt fn.results.toList fun x s' => K x ⟨s.tm, s'.hp, s'.T⟩)
      ⟨args ++ List.replicate (fn.ntmps - args.length) tu, s.hp, s.T⟩
  | none => False

/-- the code of a result: data, or a map -/
inductive Rc where
  | cd (c : Cd)
  | mp (kc vc : Cd)

@[reducible] def Rc.T : Rc → Type
  | .cd c => c.T
  | .mp kc vc => List (kc.T × vc.T)

def Rc.V (r : Rc) (x : r.T) : V :=
  match r, x with
  | .cd c, x => c.enc x
  | .mp kc vc, es => .fmap kc vc es

def resT : List Rc → Type
  | [] => Unit
  | [c] => c.T
  | c :: d :: r => c.T × resT (d :: r)

def resVs : (l : List Rc) → resT l → List V
  | [], _ => []
  | [c], x => [c.V x]
  | c :: d :: r, p => c.V p.1 :: resVs (d :: r) p.2

def resV : (l : List Rc) → resT l → V
  | [], _ => .tup []
  | [c], x => c.V x
  | c :: d :: r, p => .tup (c.V p.1 :: resVs (d :: r) p.2)

def Cd.flat : Cd → Bool
  | .slice _ => false
  | .pair a b => a.flat && b.flat
  | _ => true

def Rc.flat : Rc → Bool
  | .cd c => c.flat
  | .mp _ _ => false

/-- result codes, ways, kept slots, and functions to be entered, by number -/
structure Cx where
  tt : TT
  sig : List (Nat × List Rc)
  xsig : List (Nat × List Xd)
  mds : List (Nat × Mds)
  msk : List (Nat × List (Nat × List Bool × Nat))
  fns : List (Nat × Func)

def assoc {α : Type} (n : Nat) : List (Nat × α) → Option α
  | [] => none
  | (k, x) :: l => match Nat.beq k n with
    | true => some x
    | false => assoc n l

def Cx.md (E : Cx) (f : Nat) : Mds := (assoc f E.mds).getD []
def Cx.mk1 (E : Cx) (f : Nat) (b : Nat) : List Bool × Nat := match assoc f E.msk with
  | some l => (assoc b l).getD ([], 0)
  | none => ([], 0)

def pureC (P : Program) (E : Cx) (f : FuncId) (args : List TV) (s : St) (K : TV → St → Prop) : Prop :=
  match assoc f E.sig, TV.allV args with
  | some cs, some avs => match V.ntL (avs.map V.norm1) with
    | true => ∃ p : resT cs, PC P f (avs.map V.norm1) (resV cs p) ∧ K (.v (resV cs p)) s
    | false => False
  | _, _ => False

def lendC (P : Program) (E : Cx) (f : FuncId) (args : List TV) (s : St) (K : TV → St → Prop) : Prop :=
  match assoc f E.sig with
  | some cs => match cs.all Rc.flat with
    | true => frzL (frz1 s.hp) args fun avs => match V.ntL (avs.map V.norm1) with
      | true => ∃ p : resT cs, PC P f (avs.map V.norm1) (resV cs p) ∧ K (.v (resV cs p)) s
      | false => False
    | false => False
  | none => False

/-- a call that reads the heap -/
def readC (P : Program) (E : Cx) (f : FuncId) (args : List TV) (s : St) (K : TV → St → Prop) : Prop :=
  match assoc f E.xsig, xnArgs args, hpX s.hp with
  | some cs, some as, some X => ∃ p : xresT cs, RC P f cs as X p ∧ K (xresV cs p) s
  | _, _, _ => False

/-- a call that turns the heap -/
def turnC (P : Program) (E : Cx) (f : FuncId) (args : List TV) (s : St) (K : TV → St → Prop) : Prop :=
  match assoc f E.xsig, xnArgs args, hpX s.hp with
  | some cs, some as, some X => XC P f cs as X fun p X' => K (xresV cs p) (setX s X')
  | _, _, _ => False

def callN (P : Program) (E : Cx) : Nat → CallP
  | _, .dflt, f, args, s, K => pureC P E f args s K
  | _, .lend, f, args, s, K => lendC P E f args s K
  | _, .rd, f, args, s, K => readC P E f args s K
  | _, .xc, f, args, s, K => turnC P E f args s K
  | n + 1, .inl, f, args, s, K => match assoc f E.fns with
    | some fn => fnK E.tt (callN P E n) (E.md f) (E.mk1 f) fn args s K
    | none => False
  | _, _, _, _, _, _ => False

section
variable {P : Program} {tt : TT} {Mine : Mn} {G : Gh} {s : St} {a : Act} {w : World} {call : CallP}

theorem FzOK.inv (h : FzOK G w) : Inv (mnOf G w) G.bare [] ⟨0, []⟩ w :=
  ⟨h.cells, h.mps, fun i o hi => by simp at hi, fun i j o o' b _ hi => by simp at hi, fun t ht => by simp at ht, fun t ht => by simp at ht, fun t ht => by simp at ht,
    fun i g _ => rfl, fun i o g hi => by simp at hi, fun n _ => rfl, fun b hb => hb, fun b o v hc => .inr hc, fun r e hm => .inr hm⟩

theorem FzOK.invX (h : FzOK G w) : Inv (mnOf G w) G.bare [some (.heap XH.none)] ⟨0, []⟩ w := by
  have hget : ∀ i o, ([some (.heap XH.none)] : Hp)[i]? = some (some o) → i = 0 ∧ o = .heap XH.none := by
    intro i o h
    match i with
    | 0 => simp at h; exact ⟨rfl, h.symm⟩
    | i + 1 => simp at h
  refine ⟨h.cells, h.mps, fun i o hi => ?_, fun i j o o' b hij hi hj => ?_, fun t ht => by simp at ht, fun t ht => by simp at ht, fun t ht => by simp at ht,
    fun i g _ => rfl, fun i o g hi _ => rfl, fun n _ => rfl, fun b hb => hb, fun b o v hc => .inr hc, fun r e hm => .inr hm⟩
  · obtain ⟨rfl, rfl⟩ := hget i o hi
    exact ⟨rfl, fun h _ => ⟨rfl, rfl⟩, fun h o ho => by simp [XH.none] at ho, fun k k' b sz ct sz' ct' _ n1 => by simp [XH.none] at n1⟩
  · obtain ⟨rfl, _⟩ := hget i o hi
    obtain ⟨rfl, _⟩ := hget j o' hj
    exact absurd rfl hij

theorem resCell_sound (htt : TTOK P tt) {b t : Nat} {x : TV} (h : resCell tt b t s = some x) (hi : Inv Mine G s.hp s.T w) (hr : ∀ t, TR G (s.tm.getD t tu) (a.tmps.getD t Go.undef)) :
    ∃ v, ((do loadVar t (← asAddr (a.tmps.getD b Go.undef)) : Sem Value)).run P w = .ok v w ∧ TR G x v := by
  unfold resCell at h
  split at h
  case h_2 => cases h
  rename_i i g e f hok hp
  split at h
  case h_2 => cases h
  rename_i y ho
  have hp' := hr b
  rw [hp] at hp'
  have ho' : s.hp[i]? = some (some (.box y)) := by
    simp only [List.getD] at ho
    cases hh : s.hp[i]? with
    | none => rw [hh] at ho; cases ho
    | some q => rw [hh] at ho; simp only [Option.getD_some] at ho; rw [ho]
  obtain ⟨b', sz', ct', h1, h2, h3, cur, el, h4, h5, h6⟩ := hi.objs i _ ho'
  generalize hq : a.tmps.getD b Go.undef = q at hp'
  cases hp' with
  | ptr _ _ _ _ b2 sz ct hloc =>
    rw [hloc] at h1; cases h1
    obtain ⟨v, k1, k2⟩ := sub_TV (w := w) (G := G) (b := b') (o := 0) htt hok (fun j => cur.getD j Go.undef) h (fun j z hz => by
      have hj : j < cur.size := by rw [← h5]; exact (List.getElem?_eq_some_iff.1 hz).1
      have hu : cur[j]? = some (cur.getD j Go.undef) := by simp [Array.getD, hj]
      obtain ⟨q1, q2⟩ := h6 j z _ hz hu
      exact ⟨by rw [cell_of_block h4, Nat.zero_add]; exact hu, q2, q1⟩)
    refine ⟨v, ?_, k2⟩
    rw [Nat.zero_mul]
    simpa only [Instr.loadAt, Instr.sureAddr, asAddr, Sem.run_bind, Sem.run_pure, Result.andThen_ok] using k1

theorem resTV_sound (htt : TTOK P tt) (hi : Inv Mine G s.hp s.T w) : ∀ (rs : List ResultVar) (l : List TV), resTV tt rs s = some l → (∀ t, TR G (s.tm.getD t tu) (a.tmps.getD t Go.undef)) →
    ∃ vs : List Value, (rs.mapM fun
      | .tmp t => pure (a.tmps.getD t Go.undef)
      | .cell b t => do loadVar t (← asAddr (a.tmps.getD b Go.undef)) : Sem (List Value)).run P w = .ok vs w ∧ l.length = vs.length ∧
      ∀ (i : Nat) x y, l[i]? = some x → vs[i]? = some y → TR G x y
  | [], l, h, _ => by
    cases h
    exact ⟨[], by simp [Sem.run_pure], rfl, fun i x y hx => by simp at hx⟩
  | .tmp t :: r, l, h, hr => by
    unfold resTV at h
    split at h
    · rename_i l' hl'
      cases h
      obtain ⟨vs, h1, h2, h3⟩ := resTV_sound htt hi r l' hl' hr
      refine ⟨a.tmps.getD t Go.undef :: vs, ?_, by simp [h2], fun i x y hx hy => ?_⟩
      · rw [List.mapM_cons, Sem.run_bind, Sem.run_pure, Result.andThen_ok, Sem.run_bind, h1, Result.andThen_ok, Sem.run_pure]
      · cases i with
        | zero =>
          have e1 : s.tm.getD t tu = x := by simpa using hx
          have e2 : a.tmps.getD t Go.undef = y := by simpa using hy
          rw [← e1, ← e2]; exact hr t
        | succ i => exact h3 i x y (by simpa using hx) (by simpa using hy)
    · cases h
  | .cell b t :: r, l, h, hr => by
    unfold resTV at h
    split at h
    · rename_i x' l' hx' hl'
      cases h
      obtain ⟨v, k1, k2⟩ := resCell_sound htt hx' hi hr
      obtain ⟨vs, h1, h2, h3⟩ := resTV_sound htt hi r l' hl' hr
      refine ⟨v :: vs, ?_, by simp [h2], fun i x y hx hy => ?_⟩
      · rw [List.mapM_cons, Sem.run_bind]
        refine (congrArg (fun r => Result.andThen r _) k1).trans ?_
        rw [Result.andThen_ok, Sem.run_bind, h1, Result.andThen_ok, Sem.run_pure]
      · cases i with
        | zero =>
          have e1 : x' = x := by simpa using hx
          have e2 : v = y := by simpa using hy
          rw [← e1, ← e2]; exact k2
        | succ i => exact h3 i x y (by simpa using hx) (by simpa using hy)
    · cases h

theorem results_sound (htt : TTOK P tt) (hi : Inv Mine G s.hp s.T w) {fn : Func} {l : List TV} (h : resTV tt fn.results.toList s = some l) (hr : ∀ t, TR G (s.tm.getD t tu) (a.tmps.getD t Go.undef)) :
    ∃ v, (results fn a.tmps).run P w = .ok v w ∧ TR G (res1 l) v := by
  obtain ⟨vs, h1, h2, h3⟩ := resTV_sound (P := P) (w := w) htt hi fn.results.toList l h hr
  have hm : (fn.results.mapM fun
      | .tmp t => pure (a.tmps.getD t Go.undef)
      | .cell b t => do loadVar t (← asAddr (a.tmps.getD b Go.undef)) : Sem (Array Value)).run P w = .ok vs.toArray w := by
    rw [Array.mapM_eq_mapM_toList, Sem.run_map, h1]; rfl
  unfold results
  rw [Sem.run_bind]
  refine ⟨_, (congrArg (fun r => Result.andThen r _) hm).trans (by rw [Result.andThen_ok, Sem.run_pure]), ?_⟩
  match l, vs, h2, h3 with
  | [x], [v], _, h3 => exact h3 0 x v rfl rfl
  | [], [], _, h3 => exact .tup _ [] rfl h3
  | x :: y :: l, v :: u :: vs, h2, h3 =>
    have hne : ¬ (v :: u :: vs).toArray.size = 1 := by simp
    rw [dif_neg hne]
    exact .tup _ _ h2 h3
  | [], _ :: _, h2, _ => simp at h2
  | _ :: _, [], h2, _ => simp at h2
  | [_], _ :: _ :: _, h2, _ => simp at h2
  | _ :: _ :: _, [_], h2, _ => simp at h2

theorem fnK_sound (htt : TTOK P tt) (hcs : CallS P call) (hcd : CallDet call) (hmix : P.follows .mixedOrders = true) {f : FuncId} {fn : Func} (hf : P.funcs[f]? = some fn)
    {md : Mds} {msk : Nat → List Bool × Nat} {args : List TV} {K : TV → St → Prop} (h : fnK tt call md msk fn args s K) {vs : Array Value} (hi : Inv Mine G s.hp s.T w)
    (hl : args.length = vs.size) (hr : ∀ (i : Nat) x y, args[i]? = some x → vs[i]? = some y → TR G x y) : Calls P f vs w (CallPost Mine G s w K) := by
  unfold fnK at h
  split at h
  case h_2 => exact h.elim
  rename_i c hb
  have hrel0 : Rel Mine G ⟨args ++ List.replicate (fn.ntmps - args.length) tu, s.hp, s.T⟩ { tmps := vs ++ Array.replicate (fn.ntmps - vs.size) Go.undef, defers := [] } w := by
    refine ⟨by simp [hl], fun t x hx => ?_, rfl, hi⟩
    rcases Nat.lt_or_ge t args.length with ht | ht
    · rw [List.getElem?_append_left ht] at hx
      have hv : vs[t]? = some vs[t] := Array.getElem?_eq_getElem (by omega)
      have : (vs ++ Array.replicate (fn.ntmps - vs.size) Go.undef).getD t Go.undef = vs[t] := by
        rw [Array.getD_eq_getD_getElem?, Array.getElem?_append_left (by omega), hv]; rfl
      rw [this]
      exact hr t x _ hx hv
    · rw [List.getElem?_append_right ht, List.getElem?_replicate] at hx
      split at hx
      · cases hx; exact TR.undef _
      · cases hx
  refine calls_of_wp hf hb (Code.wp_mono ?_ (awp_sound htt hcs hcd hmix c 0 _ _ G _ w h hrel0 (Nat.le_refl _)))
  · rintro e a' w' ⟨s', G', hq, hrel, hfz, hlc, hh, hst⟩
    have fin : ∀ l, resTV tt fn.results.toList s' = some l → K (res1 l) ⟨s.tm, s'.hp, s'.T⟩ → a'.defers = [] ∧ ∃ v, (results fn a'.tmps).run P w' = .ok v w' ∧ CallPost Mine G s w K (.returned v) w' := by
      intro l hl hk
      obtain ⟨v, h1, h2⟩ := results_sound (P := P) (w := w') (G := G') (a := a') htt hrel.inv hl (fun t => by
        simp only [List.getD]
        cases ht : s'.tm[t]? with
        | none => exact TR.undef _
        | some y => exact hrel.tm t y ht)
      exact ⟨hrel.defers, v, h1, v, _, _, G', rfl, hk, h2, rfl, hrel.inv, hfz, hlc, hh, hst⟩
    cases e <;> first
      | (simp only [retK] at hq
         split at hq
         · rename_i l hl
           exact fin l hl hq
         · exact hq.elim)
      | exact hq.elim

/-- a pure call, seen by its caller -/
theorem PCPost.caller {Mine : Mn} {G : Gh} {hp : Hp} {T : Toks} {G' : Gh} {w w' : World} (hi : Inv Mine G hp T w) (hok : FzOK G' w') (hf : Fz G.bare G'.bare)
    (hnew : (∀ b o v, G'.cell b o = some v → w.heap.size ≤ b ∨ G.cell b o = some v) ∧ ∀ r e, G'.mp r = some e → w.heap.size ≤ r ∨ G.mp r = some e) {M : Mn} (hM : ∀ b, M b ↔ w.heap.size ≤ b)
    (hs : Stp M w w') : ∃ G2, Inv Mine G2 hp T w' ∧ Fz G G2 ∧ Lc hp.length G G2 ∧ Stp Mine w w' ∧ ∀ r v, VR G'.bare r v → VR G2 r v := by
  have hblk : ∀ b, b < w.heap.size → w'.heap[b]? = w.heap[b]? := fun b hb => hs.block b fun hm => by have := (hM b).1 hm; omega
  have hpriv : ∀ b, b < w.heap.size → G.priv b → Gh.priv { G with cell := G'.cell, mp := G'.mp } b := by
    intro b hb hp
    refine ⟨fun o => ?_, ?_⟩
    · cases hc : G'.cell b o with
      | none => rfl
      | some v =>
        rcases hnew.1 b o v hc with h | h
        · omega
        · rw [hp.1 o] at h; cases h
    · cases hc : G'.mp b with
      | none => rfl
      | some e =>
        rcases hnew.2 b e hc with h | h
        · omega
        · rw [hp.2] at h; cases h
  have hfz : Fz G { G with cell := G'.cell, mp := G'.mp } := ⟨fun b o v h => hf.cell b o v h, fun r e h => hf.mp r e h, fun _ _ h => h, fun _ _ _ _ _ h => h⟩
  have hfz2 : Fz G'.bare { G with cell := G'.cell, mp := G'.mp } := ⟨fun _ _ _ h => h, fun _ _ h => h, fun n x h => (nomatch h), fun t t' x _ h => (nomatch h)⟩
  refine ⟨{ G with cell := G'.cell, mp := G'.mp }, ⟨hok.cells, hok.mps, fun i o ho => ?_, hi.inj, fun t ht => ?_, hi.tobj, hi.tinj, hi.lb, hi.gens, hi.tfin, fun b hb => hi.mine b (Nat.le_trans hs.size hb), ?_, ?_⟩,
    hfz, fun i _ g x h => h, ⟨hs.os, hs.tape, hs.output, hs.size, fun k hk => hblk k ?_⟩, fun r v h => h.mono hfz2⟩
  · exact (hi.objs i o ho).keep hi.lb hfz (fun i _ g x h => h) fun b hb =>
      have hlt := ((hi.objs i o ho).blk hb).2.2
      ⟨hblk b hlt, hpriv b hlt⟩
  · obtain ⟨bo, e, c, h1, h2⟩ := hi.toks t ht
    refine ⟨bo, e, c, h1, fun b hb => ?_⟩
    obtain ⟨k1, ⟨cur, el, k2, k3⟩, k4, k5⟩ := h2 b hb
    have hlt := heap_lt k2
    refine ⟨k1, ⟨cur, el, by rw [hblk b hlt]; exact k2, k3⟩, fun o ho => ?_, ?_⟩
    · cases hc : G'.cell b o with
      | none => rfl
      | some v =>
        rcases hnew.1 b o v hc with h | h
        · omega
        · rw [k4 o ho] at h; cases h
    · cases hc : G'.mp b with
      | none => rfl
      | some e =>
        rcases hnew.2 b e hc with h | h
        · omega
        · rw [k5] at h; cases h
  · intro b o v hc
    rcases hnew.1 b o v hc with h | h
    · exact .inl (hi.mine b h)
    · exact hi.old.1 b o v h
  · intro r e hc
    rcases hnew.2 r e hc with h | h
    · exact .inl (hi.mine r h)
    · exact hi.old.2 r e h
  · rcases Nat.lt_or_ge k w.heap.size with h | h
    · exact h
    · exact absurd (hi.mine k h) hk

theorem allV_get : ∀ {l : List TV} {vs : List V}, TV.allV l = some vs → l = vs.map .v
  | [], vs, h => by cases h; rfl
  | .v x :: l, vs, h => by
    unfold TV.allV at h
    split at h
    · rename_i l' hl
      cases h
      rw [allV_get hl]; rfl
    · cases h
  | .ptr _ _ _ _ :: _, _, h => by cases h
  | .arr _ _ _ _ :: _, _, h => by cases h
  | .mapr _ :: _, _, h => by cases h
  | .clo _ _ :: _, _, h => by cases h
  | .iter _ :: _, _, h => by cases h
  | .agg _ :: _, _, h => by cases h
  | .tup _ :: _, _, h => by cases h
  | .ref _ _ _ _ :: _, _, h => by cases h
  | .sl _ _ :: _, _, h => by cases h
  | .mp _ _ _ :: _, _, h => by cases h

theorem norm_args {G : Gh} {avs : List V} {vs : Array Value} (hn : V.ntL (avs.map V.norm1) = true) (hr : ∀ (i : Nat) x y, avs[i]? = some x → vs[i]? = some y → VR G x y) :
    ∀ (i : Nat) x y, (avs.map V.norm1)[i]? = some x → vs[i]? = some y → VR G.bare x y := by
  intro i x y hx hy
  have hnt := ntL_mem hn x (List.mem_of_getElem? hx)
  rw [List.getElem?_map] at hx
  cases ha : avs[i]? with
  | none => rw [ha] at hx; cases hx
  | some q => rw [ha] at hx; cases hx; exact (hr i q y ha hy).norm1.bare hnt

theorem pureC_sound {E : Cx} {f : FuncId} {args : List TV} {K : TV → St → Prop} (h : pureC P E f args s K) {vs : Array Value} (hi : Inv Mine G s.hp s.T w)
    (hl : args.length = vs.size) (hr : ∀ (i : Nat) x y, args[i]? = some x → vs[i]? = some y → TR G x y) : Entered P f ∧ Calls P f vs w (CallPost Mine G s w K) := by
  unfold pureC at h
  split at h
  case h_2 => exact h.elim
  rename_i cs avs hsig hav
  split at h
  case h_2 => exact h.elim
  rename_i hnt
  obtain ⟨p, hpc, hk⟩ := h
  have hargs := allV_get hav
  subst hargs
  obtain ⟨h1, h2⟩ := hpc G w vs ⟨hi.cells, hi.mps⟩ (by simpa using hl) (norm_args hnt fun i x y hx hy => by
    have := hr i (.v x) y (by rw [List.getElem?_map, hx]; rfl) hy
    cases this with
    | v _ _ h => exact h)
  refine ⟨h1, h2.mono ?_⟩
  rintro e w' ⟨v, G', rfl, hv, hok, hf, hnew, hs⟩
  obtain ⟨G2, q1, q2, q3, q4, q5⟩ := PCPost.caller hi hok hf hnew (fun b => Iff.rfl) hs
  exact ⟨v, _, s, G2, rfl, hk, .v _ _ (q5 _ _ hv), rfl, q1, q2, q3, Nat.le_refl _, q4⟩

theorem PC.of (htt : TTOK P tt) (hcs : CallS P call) (hcd : CallDet call) (hmix : P.follows .mixedOrders = true) {f : FuncId} {fn : Func} (hf : P.funcs[f]? = some fn)
    (hname : fn.name ≠ "runtime.NumGoroutine") {md : Mds} {msk : Nat → List Bool × Nat} {args : List V} {r : V}
    (h : fnK tt call md msk fn (args.map .v) ⟨[], [], ⟨0, []⟩⟩ fun x s' => frz s'.hp x fun v => v.norm = r ∧ r.nt = true) : PC P f args r := by
  intro G w vs hok hl hr
  have hb : fn.body.isSome = true := by
    unfold fnK at h
    split at h
    · rename_i hb; rw [hb]; rfl
    · exact h.elim
  refine ⟨⟨fn, hf, hname, hb⟩, ?_⟩
  have := fnK_sound (s := ⟨[], [], ⟨0, []⟩⟩) htt hcs hcd hmix hf h hok.inv (by simpa using hl) (fun i x y hx hy => by
    rw [List.getElem?_map] at hx
    cases ha : args[i]? with
    | none => rw [ha] at hx; cases hx
    | some q => rw [ha] at hx; cases hx; exact .v _ _ (hr i q y ha hy))
  refine this.mono ?_
  rintro e w' ⟨v, x, s', G', rfl, hk, hx, -, hi', hf', -, -, hs⟩
  obtain ⟨r', ⟨rfl, hnt⟩, hv⟩ := frz_sound hk hi' hx
  have hold := fzAll_old hi'
  exact ⟨v, G'.fzAll (mnOf G w) w', rfl, (hv.norm).bare hnt, fzAll_ok hi', ⟨fun b o v h => fzAll_fz.cell b o v (hf'.cell b o v h), fun r e h => fzAll_fz.mp r e (hf'.mp r e h), fun _ _ h => (by cases h), fun _ _ _ _ h => by cases h⟩,
    ⟨fun b o v h => hold.1 b o v h, fun r e h => hold.2 r e h⟩, hs⟩

/-- the same, with a heap -/
theorem PC.ofX (htt : TTOK P tt) (hcs : CallS P call) (hcd : CallDet call) (hmix : P.follows .mixedOrders = true) {f : FuncId} {fn : Func} (hf : P.funcs[f]? = some fn)
    (hname : fn.name ≠ "runtime.NumGoroutine") {md : Mds} {msk : Nat → List Bool × Nat} {args : List V} {r : V}
    (h : fnK tt call md msk fn (args.map .v) ⟨[], [some (.heap XH.none)], ⟨0, []⟩⟩ fun x s' => frz s'.hp x fun v => v.norm = r ∧ r.nt = true) : PC P f args r := by
  intro G w vs hok hl hr
  have hb : fn.body.isSome = true := by
    unfold fnK at h
    split at h
    · rename_i hb; rw [hb]; rfl
    · exact h.elim
  refine ⟨⟨fn, hf, hname, hb⟩, ?_⟩
  have := fnK_sound (s := ⟨[], [some (.heap XH.none)], ⟨0, []⟩⟩) htt hcs hcd hmix hf h hok.invX (by simpa using hl) (fun i x y hx hy => by
    rw [List.getElem?_map] at hx
    cases ha : args[i]? with
    | none => rw [ha] at hx; cases hx
    | some q => rw [ha] at hx; cases hx; exact .v _ _ (hr i q y ha hy))
  refine this.mono ?_
  rintro e w' ⟨v, x, s', G', rfl, hk, hx, -, hi', hf', -, -, hs⟩
  obtain ⟨r', ⟨rfl, hnt⟩, hv⟩ := frz_sound hk hi' hx
  have hold := fzAll_old hi'
  exact ⟨v, G'.fzAll (mnOf G w) w', rfl, (hv.norm).bare hnt, fzAll_ok hi', ⟨fun b o v h => fzAll_fz.cell b o v (hf'.cell b o v h), fun r e h => fzAll_fz.mp r e (hf'.mp r e h), fun _ _ h => (by cases h), fun _ _ _ _ h => by cases h⟩,
    ⟨fun b o v h => hold.1 b o v h, fun r e h => hold.2 r e h⟩, hs⟩

theorem Cd.flat_bare {G G' : Gh} : ∀ (c : Cd), c.flat = true → ∀ (x : c.T) (q : V), q ∈ c.cells x → ∀ y, VR G q y → VR G' q y
  | .unit, _, x, q, hq, y, h => by simp [Cd.cells] at hq
  | .int k, _, x, q, hq, y, h => by simp [Cd.cells] at hq; subst hq; cases h; exact .int k x
  | .bool, _, x, q, hq, y, h => by simp [Cd.cells] at hq; subst hq; cases h; exact .bool x
  | .str, _, x, q, hq, y, h => by simp [Cd.cells] at hq; subst hq; cases h; exact .str x
  | .slice _, hf, x, q, hq, y, h => by simp [Cd.flat] at hf
  | .pair a b, hf, x, q, hq, y, h => by
    simp only [Cd.flat, Bool.and_eq_true] at hf
    simp only [Cd.cells, List.mem_append] at hq
    rcases hq with hq | hq
    · exact Cd.flat_bare a hf.1 x.1 q hq y h
    · exact Cd.flat_bare b hf.2 x.2 q hq y h

theorem flat_enc {G G' : Gh} {c : Cd} (hf : c.flat = true) {x : c.T} {y : Value} (h : VR G (c.enc x) y) : VR G' (c.enc x) y := by
  cases c with
  | unit =>
    cases h with
    | agg _ vs hl ho hh => exact .agg _ vs hl ho fun i q u hq hu => by simp at hq
  | int k => cases h; exact .int k x
  | bool => cases h; exact .bool x
  | str => cases h; exact .str x
  | slice c => simp [Cd.flat] at hf
  | pair a b =>
    cases h with
    | agg _ vs hl ho hh => exact .agg _ vs hl ho fun i q u hq hu => Cd.flat_bare (.pair a b) hf x q (List.mem_of_getElem? hq) u (hh i q u hq hu)

theorem flat_V {G G' : Gh} {c : Rc} (hf : c.flat = true) {x : c.T} {y : Value} (h : VR G (c.V x) y) : VR G' (c.V x) y := by
  cases c with
  | cd c => exact flat_enc (c := c) hf h
  | mp kc vc => cases hf

theorem flat_resVs {G G' : Gh} : ∀ (cs : List Rc), cs.all Rc.flat = true → ∀ (p : resT cs) q, q ∈ resVs cs p → ∀ y, VR G q y → VR G' q y
  | [], _, p, q, hq, y, h => by simp [resVs] at hq
  | [c], hf, p, q, hq, y, h => by
    simp [resVs] at hq
    subst hq
    exact flat_V (by simpa using hf) h
  | c :: d :: r, hf, p, q, hq, y, h => by
    simp only [List.all_cons, Bool.and_eq_true] at hf
    rcases List.mem_cons.1 hq with rfl | hq
    · exact flat_V hf.1 h
    · exact flat_resVs (d :: r) (by simp [hf.2]) p.2 q hq y h

theorem flat_resV {G G' : Gh} {cs : List Rc} (hf : cs.all Rc.flat = true) {p : resT cs} {y : Value} (h : VR G (resV cs p) y) : VR G' (resV cs p) y := by
  match cs, p, hf, h with
  | [], p, _, h =>
    cases h with
    | tup _ vs hl hh => exact .tup _ vs hl fun i q u hq hu => by simp at hq
  | [c], p, hf, h => exact flat_V (c := c) (by simpa using hf) h
  | c :: d :: r, p, hf, h =>
    cases h with
    | tup _ vs hl hh => exact .tup _ vs hl fun i q u hq hu => flat_resVs (c :: d :: r) hf p q (List.mem_of_getElem? hq) u (hh i q u hq hu)

theorem lendC_sound {E : Cx} {f : FuncId} {args : List TV} {K : TV → St → Prop} (h : lendC P E f args s K) {vs : Array Value} (hi : Inv Mine G s.hp s.T w)
    (hl : args.length = vs.size) (hr : ∀ (i : Nat) x y, args[i]? = some x → vs[i]? = some y → TR G x y) : Entered P f ∧ Calls P f vs w (CallPost Mine G s w K) := by
  unfold lendC at h
  split at h
  case h_2 => exact h.elim
  rename_i cs hsig
  split at h
  case h_2 => exact h.elim
  rename_i hflat
  obtain ⟨rs, h, hrl, hrs⟩ := frzL_sound (G := G) (G' := G.fzAll Mine w) (fun x y K h hx => frz1_sound h hi hx) args vs.toList _ h (by simpa using hl) (fun i x y hx hy => hr i x y hx (by rw [← Array.getElem?_toList]; exact hy))
  split at h
  case h_2 => exact h.elim
  rename_i hnt
  obtain ⟨p, hpc, hk⟩ := h
  obtain ⟨h1, h2⟩ := hpc (G.fzAll Mine w) w vs (fzAll_ok hi) (by simpa using hrl) (norm_args hnt fun i x y hx hy => hrs i x y hx (by rw [Array.getElem?_toList]; exact hy))
  refine ⟨h1, h2.mono ?_⟩
  rintro e w' ⟨v, G', rfl, hv, hok, hf, hnew, hs⟩
  have hokG : FzOK G w' := ⟨fun b o v h => hok.cells b o v (hf.cell b o v (fzAll_fz.cell b o v h)), fun r e h => hok.mps r e (hf.mp r e (fzAll_fz.mp r e h))⟩
  obtain ⟨G2, q1, q2, q3, q4, q5⟩ := PCPost.caller (G' := G) hi hokG (.refl _) ⟨fun b o v h => .inr h, fun r e h => .inr h⟩ (fun b => Iff.rfl) hs
  exact ⟨v, _, s, G2, rfl, hk, .v _ _ (flat_resV hflat hv), rfl, q1, q2, q3, Nat.le_refl _, q4⟩

theorem turnC_sound {E : Cx} {f : FuncId} {args : List TV} {K : TV → St → Prop} (h : turnC P E f args s K) {vs : Array Value} (hi : Inv Mine G s.hp s.T w)
    (hl : args.length = vs.size) (hr : ∀ (i : Nat) x y, args[i]? = some x → vs[i]? = some y → TR G x y) : Entered P f ∧ Calls P f vs w (CallPost Mine G s w K) := by
  unfold turnC at h
  split at h
  case h_2 => exact h.elim
  rename_i cs as X hsig has hX
  obtain ⟨k1, k2, k3⟩ := xnArgs_R (vs := vs.toList) has (by simpa using hl) (fun i x y hx hy => hr i x y hx (by rw [← Array.getElem?_toList]; exact hy))
  obtain ⟨h1, h2⟩ := h (mnX G X w) G.bareX w vs (hi.small (hpX_get hX)) (by simpa using k1) (fun i x y hx hy => (k2 i x y hx (by rw [Array.getElem?_toList]; exact hy)).bareX (k3 x (List.mem_of_getElem? hx)))
  refine ⟨h1, h2.mono ?_⟩
  rintro e w' ⟨v, p, X', G', rfl, hk, hv, hi', hf, hl', hs⟩
  obtain ⟨G2, q1, q2, q3, q4, q5⟩ := hi.xcall (hpX_get hX) hi' hf hl' hs
  exact ⟨v, _, setX s X', G2, rfl, hk, q5 _ _ (xresV_ok cs p) hv, rfl, q1, q2, q3, by simp [setX, St.setO], q4⟩

theorem readC_sound {E : Cx} {f : FuncId} {args : List TV} {K : TV → St → Prop} (h : readC P E f args s K) {vs : Array Value} (hi : Inv Mine G s.hp s.T w)
    (hl : args.length = vs.size) (hr : ∀ (i : Nat) x y, args[i]? = some x → vs[i]? = some y → TR G x y) : Entered P f ∧ Calls P f vs w (CallPost Mine G s w K) := by
  refine turnC_sound (E := E) (args := args) ?_ hi hl hr
  unfold readC at h
  unfold turnC
  split at h
  case h_2 => exact h.elim
  rename_i cs as X hsig has hX
  obtain ⟨p, hp, hk⟩ := h
  show XC P f cs as X fun p X' => K (xresV cs p) (setX s X')
  refine XC.mono hp fun p' X' h => ?_
  obtain ⟨rfl, rfl⟩ := h
  rw [setX_same hX]; exact hk

theorem callN_det {E : Cx} (n : Nat) : CallDet (callN P E n) := by
  refine ⟨?_, fun f args s K h => ?_⟩
  rotate_left
  · have h : readC P E f args s K := by cases n <;> exact h
    have red : ∀ s'' K', readC P E f args s'' K' → callN P E n .rd f args s'' K' := fun s'' K' hh => by cases n <;> exact hh
    unfold readC at h
    split at h
    case h_2 => exact h.elim
    rename_i cs as X hsig has hX
    obtain ⟨p, hp, hk⟩ := h
    exact ⟨_, hk, fun s'' K' hq hk' => red s'' K' (by unfold readC; simp only [hsig, has, hq, hX]; exact ⟨p, hp, hk'⟩)⟩
  intro f args s K h
  have h : pureC P E f args s K := by cases n <;> exact h
  have red : ∀ s'' K', pureC P E f args s'' K' → callN P E n .dflt f args s'' K' := fun s'' K' hh => by cases n <;> exact hh
  unfold pureC at h
  split at h
  case h_2 => exact h.elim
  rename_i cs avs hsig hav
  split at h
  case h_2 => exact h.elim
  rename_i hnt
  obtain ⟨p, hpc, hk⟩ := h
  exact ⟨_, hk, fun s'' K' hk' => red s'' K' (by unfold pureC; simp only [hsig, hav, hnt]; exact ⟨p, hpc, hk'⟩)⟩

theorem XC.of (htt : TTOK P tt) (hcs : CallS P call) (hcd : CallDet call) (hmix : P.follows .mixedOrders = true) {f : FuncId} {fn : Func} (hf : P.funcs[f]? = some fn)
    (hname : fn.name ≠ "runtime.NumGoroutine") {md : Mds} {msk : Nat → List Bool × Nat} {cs : List Xd} {args : List TV} {X : XH} {Q : xresT cs → XH → Prop}
    (h : fnK tt call md msk fn args ⟨[], [some (.heap X)], ⟨0, []⟩⟩ (xfin cs Q)) : XC P f cs args X Q := by
  intro Mine G w vs hi hl hr
  have hb : fn.body.isSome = true := by
    unfold fnK at h
    split at h
    · rename_i hb; rw [hb]; rfl
    · exact h.elim
  refine ⟨⟨fn, hf, hname, hb⟩, ?_⟩
  have := fnK_sound (s := ⟨[], [some (.heap X)], ⟨0, []⟩⟩) htt hcs hcd hmix hf h hi hl hr
  refine this.mono ?_
  rintro e w' ⟨v, x, s', G', rfl, hk, hx, -, hi', hf', hl', -, hs⟩
  -- the heap at the end
  obtain ⟨X', hX'⟩ : ∃ X', hpX s'.hp = some X' := by
    unfold xfin at hk
    obtain ⟨rs, _, h⟩ := xoutL_ex xout1_ex _ _ hk
    split at h
    · rename_i X' p hX _; exact ⟨X', hX⟩
    · exact h.elim
  obtain ⟨hp', hhp⟩ : ∃ hp', s'.hp = some (.heap X') :: hp' := by
    unfold hpX at hX'
    split at hX'
    · rename_i X2 r hh; cases hX'; exact ⟨r, hh⟩
    · cases hX'
  rw [hhp] at hi'
  obtain ⟨G1, hG1⟩ : ∃ G1, G1 = G'.fzAll ⟨fun b => Mine b ∧ ¬ Owns G' 0 (.heap X') b, G'.cell, G'.mp⟩ w' := ⟨_, rfl⟩
  have hk' : ∃ p, Q p X' ∧ TR G1 (xresV cs p) v := by
    unfold xfin at hk
    rw [hhp] at hk
    have many : ∀ (l : List TV) (vs : List Value), l.length = vs.length → (∀ (i : Nat) x y, l[i]? = some x → vs[i]? = some y → TR G' x y) → xretL cs x = l → (cs.length = 1 → ∃ u, vs = [u] ∧ v = u) → (cs.length ≠ 1 → v = .tuple vs.toArray) →
        ∃ p, Q p X' ∧ TR G1 (xresV cs p) v := by
      intro l vs hl hr hx1 hv1 hv2
      rw [hx1] at hk
      obtain ⟨rs, k1, k2, k3⟩ := xoutL_sound (G' := G1) (fun x y K h hx => xout1_sound h hi' hG1 hx) l vs _ hk hl hr
      split at k1
      case h_2 => exact k1.elim
      rename_i X2 p hX2 hp
      cases hX2
      obtain ⟨r0, r1, r2⟩ := xdecL_R cs rs vs p hp k2 k3
      refine ⟨p, k1, ?_⟩
      match cs, p, r0, r1, r2, hv1, hv2 with
      | [], p, r0, r1, r2, hv1, hv2 =>
        have : vs = [] := List.eq_nil_of_length_eq_zero r0.symm
        subst this
        rw [hv2 (by simp)]
        exact .v _ _ (.tup [] [] rfl (fun i x y hx => by simp at hx))
      | [c], p, r0, r1, r2, hv1, hv2 =>
        obtain ⟨u, rfl, rfl⟩ := hv1 rfl
        exact r2 0 _ _ rfl rfl
      | c :: d :: r, p, r0, r1, r2, hv1, hv2 =>
        rw [hv2 (by simp)]
        exact TR.mkTup (l := xresVs (c :: d :: r) p) r1 r2
    have bad : xretL cs x = [x] → cs.length ≠ 1 → False := by
      intro h1 h2
      rw [h1] at hk
      obtain ⟨rs, h3, h⟩ := xoutL_ex xout1_ex _ _ hk
      split at h
      case h_2 => exact h.elim
      rename_i X2 p _ hp
      match cs, rs, p, hp, h2, h3 with
      | [], [], _, _, _, h3 => simp at h3
      | [], _ :: _, _, hp, _, _ => cases hp
      | [c], _, _, _, h2, _ => exact h2 rfl
      | c :: d :: r, [], _, hp, _, _ => cases hp
      | c :: d :: r, [y], p, hp, _, _ =>
        have hp : (match c.decW y, xdecL (d :: r) [] with
          | some a, some p => some (a, p)
          | _, _ => none) = some p := hp
        have hn : xdecL (d :: r) [] = none := by cases r <;> rfl
        rw [hn] at hp
        cases h1 : c.decW y with
        | none => rw [h1] at hp; cases hp
        | some a => rw [h1] at hp; cases hp
      | c :: d :: r, _ :: _ :: _, _, _, _, h3 => simp at h3
    by_cases hc : cs.length = 1
    · have hx1 : xretL cs x = [x] := by
        match cs, hc with
        | [c], _ => rfl
      exact many [x] [v] rfl (fun i x' y hx' hy => by
        match i with
        | 0 => simp at hx' hy; subst hx' hy; exact hx
        | i + 1 => simp at hx') hx1 (fun _ => ⟨v, rfl, rfl⟩) (fun h => absurd hc h)
    · have hsh : ∀ l, x = .tup l → xretL cs x = l := by
        intro l e
        subst e
        match cs, hc with
        | [], _ => rfl
        | _ :: _ :: _, _ => rfl
        | [_], hc => exact absurd rfl hc
      have hsh' : (∀ l, x ≠ .tup l) → xretL cs x = [x] := by
        intro hn
        match cs, hc with
        | [], _ => cases x <;> first | rfl | exact absurd rfl (hn _)
        | _ :: _ :: _, _ => cases x <;> first | rfl | exact absurd rfl (hn _)
        | [_], hc => exact absurd rfl hc
      by_cases ht : ∃ l, x = .tup l
      · obtain ⟨l, rfl⟩ := ht
        cases hx with | tup _ vs h1 h2 =>
        exact many l vs h1 h2 (hsh l rfl) (fun h => absurd h hc) (fun _ => rfl)
      · exact (bad (hsh' fun l e => ht ⟨l, e⟩) hc).elim
  obtain ⟨p, hq, hv⟩ := hk'
  -- the ghosts that remain
  have hok := fzAll_ok (hi'.behind)
  have hold := fzAll_old (hi'.behind)
  have hfz1 : Fz G' G1 := by rw [hG1]; exact fzAll_fz
  have hsm := hi'.xor (X := X') rfl
  have hGtok : ∀ n, G.tok n = none := fun n => hi.tfin n (Nat.zero_le _)
  have e1 : ∀ g, G1.bareX.loc 0 g = G'.loc 0 g := fun g => by rw [hG1]; simp [Gh.bareX, Gh.fzAll]
  obtain ⟨-, h1, h2, h3⟩ := hsm
  have pr : ∀ b, Owns G' 0 (.heap X') b → G'.priv b → G1.bareX.priv b := by
    intro b hb hp
    rw [hG1]
    refine ⟨fun o => ?_, ?_⟩
    · simp only [Gh.bareX, Gh.fzAll, hp.1 o, Option.none_or]
      rw [if_neg (fun h => h.2 hb)]
    · simp only [Gh.bareX, Gh.fzAll, hp.2, Option.none_or]
      rw [if_neg (fun h => h.2 hb)]
  refine ⟨v, p, X', G1.bareX, rfl, hq, hv.bareX (xresV_ok cs p), ?_, ⟨fun b o v h => ?_, fun r e h => ?_, fun n x h => ?_, fun t t' x _ h => ?_⟩, fun i hi0 g x hx => ?_, hs⟩
  · refine ⟨fun b o v h => hok.cells b o v (by rw [hG1] at h; exact h), fun r e h => hok.mps r e (by rw [hG1] at h; exact h), fun i o hio => ?_, fun i j o o' b hij h h' => ?_, fun t ht => by simp at ht, fun t ht => by simp at ht,
      fun t ht => by simp at ht, fun i g hig => ?_, fun i o g h hg => ?_, fun n _ => rfl, fun b hb => hi'.mine b hb, ?_, ?_⟩
    · match i, hio with
      | 0, hio =>
        simp at hio
        subst hio
        refine ⟨rfl, fun h hh => ⟨(h1 h hh).1, by rw [e1]; exact (h1 h hh).2⟩, fun k o ho => ?_, fun k k' b sz ct sz' ct' hne n1 n2 l1 l2 => h3 k k' b sz ct sz' ct' hne n1 n2 (by rw [← e1]; exact l1) (by rw [← e1]; exact l2)⟩
        have hk : X'.f k ≠ none := by rw [ho]; simp
        have trm : ∀ {x : TV} {y : Value}, OkX x → TR G' x y → TR G1.bareX x y := fun ho h => (h.mono hi'.lb hfz1.f0 (fun i _ g x hx => by rw [hG1]; exact hx)).bareX ho
        cases o with
        | arr c l =>
          obtain ⟨b, q1, q2, q3, cur, el, q4, q5, q6⟩ := h2 k _ ho
          refine ⟨b, by rw [e1]; exact q1, q2, pr b ⟨k, _, _, hk, q1⟩ q3, cur, el, q4, q5, fun e x hx j y hy => ?_⟩
          obtain ⟨u, r1, r2, r3⟩ := q6 e x hx j y hy
          exact ⟨u, r1, trm (Xd.cells_ok c x y (List.mem_of_getElem? hy)) r2, r3⟩
        | map kc vc es =>
          obtain ⟨b, sz, ct, q1, q2, q3, ents, ck, q4, q5, q6, q7⟩ := h2 k _ ho
          refine ⟨b, sz, ct, by rw [e1]; exact q1, q2, pr b ⟨k, _, _, hk, q1⟩ q3, ents, ck, q4, q5, fun j e m he hm => ⟨?_, trm (vc.enc_ok e.2) (q6 j e m he hm).2⟩, q7⟩
          exact (((q6 j e m he hm).1.mono hfz1.f0).bare (Cd.enc_nt kc e.1)).mono bare_fz0
      | i + 1, hio => simp at hio
    · have e1 : i = 0 := by
        have := (List.getElem?_eq_some_iff.1 h).1
        simpa using this
      have e2 : j = 0 := by
        have := (List.getElem?_eq_some_iff.1 h').1
        simpa using this
      exact absurd (e1.trans e2.symm) hij
    · have hig : 1 ≤ i := hig
      simp only [Gh.bareX]
      rw [if_neg (by omega)]
    · match i, h with
      | 0, h =>
        simp at h
        subst h
        rw [e1]
        simp only [O.gen] at hg
        exact (h1 g (by omega)).2
      | i + 1, h => simp at h
    · intro b o v h
      rw [hG1] at h
      have h : ((G'.cell b o).or _) = some v := h
      cases hc : G'.cell b o with
      | some u =>
        rw [hc] at h
        simp only [Option.some_or] at h
        cases h
        exact hi'.old.1 b o _ hc
      | none =>
        rw [hc] at h
        simp only [Option.none_or] at h
        split at h
        · rename_i hm; exact .inl hm.1
        · cases h
    · intro r e h
      rw [hG1] at h
      have h : ((G'.mp r).or _) = some e := h
      cases hc : G'.mp r with
      | some u =>
        rw [hc] at h
        simp only [Option.some_or] at h
        cases h
        exact hi'.old.2 r _ hc
      | none =>
        rw [hc] at h
        simp only [Option.none_or] at h
        split at h
        · rename_i hm; exact .inl hm.1
        · cases h
  · exact hfz1.cell b o v (hf'.cell b o v h)
  · exact hfz1.mp r e (hf'.mp r e h)
  · rw [hGtok n] at h; cases h
  · rw [hGtok t'] at h; cases h
  · have hi1 : i = 0 := by omega
    subst hi1
    rw [e1]
    exact hl' 0 (by simp) g x hx

/-- the functions that are entered are the program's -/
def FnsOK (P : Program) (E : Cx) : Prop := ∀ f fn, assoc f E.fns = some fn → P.funcs[f]? = some fn ∧ fn.name ≠ "runtime.NumGoroutine"

theorem callN_sound {E : Cx} (htt : TTOK P E.tt) (hmix : P.follows .mixedOrders = true) (hfn : FnsOK P E) : ∀ n, CallS P (callN P E n) := by
  intro n
  induction n with
  | zero =>
    intro md f args s K h Mine G w vs hi hl hr
    cases md with
    | dflt => exact pureC_sound h hi hl hr
    | lend => exact lendC_sound h hi hl hr
    | rd => exact readC_sound h hi hl hr
    | xc => exact turnC_sound h hi hl hr
    | inl => exact h.elim
    | x c => exact h.elim
    | «mut» => exact h.elim
  | succ n ih =>
    intro md f args s K h Mine G w vs hi hl hr
    cases md with
    | dflt => exact pureC_sound h hi hl hr
    | lend => exact lendC_sound h hi hl hr
    | rd => exact readC_sound h hi hl hr
    | xc => exact turnC_sound h hi hl hr
    | x c => exact h.elim
    | inl =>
      unfold callN at h
      split at h
      · rename_i fn hfn'
        obtain ⟨h1, h2⟩ := hfn f fn hfn'
        have hb : fn.body.isSome = true := by
          unfold fnK at h
          split at h
          · rename_i hb; rw [hb]; rfl
          · exact h.elim
        exact ⟨⟨fn, h1, h2, hb⟩, fnK_sound htt ih (callN_det n) hmix h1 h hi hl hr⟩
      · exact h.elim
    | «mut» => exact h.elim

end
end Go.Proofs.Ytaaedebknacheaa.AB

set_option linter.unusedVariables false
set_option linter.unusedSimpArgs false
namespace Go.Proofs.Ytaaedebknacheaa.AB
open Go

def strctB (tt : TT) : List (Nat × Nat) → List Field → Bool
  | [], [] => true
  | (off, ft) :: l, f :: r => Nat.beq f.offset off && Nat.beq f.type ft && (tt.at ft).ok && strctB tt l r
  | _, _ => false

def kokB (tt : TT) : TK → TypeDesc → Bool
  | .bool, .bool => true
  | .int k, .int k' => decide (k' = k)
  | .str, .string => true
  | .ptr e, .pointer e' => Nat.beq e' e
  | .slice e, .slice e' => Nat.beq e' e
  | .arr n e, .array n' e' => Nat.beq n' n && Nat.beq e' e && (tt.at e).ok
  | .map k e, .map k' e' => Nat.beq k' k && Nat.beq e' e && (tt.at k).ok && (tt.at e).ok
  | .strct fs, .struct fields => strctB tt fs fields.toList
  | .iface, .interface _ => true
  | .func, .func _ _ _ => true
  | _, _ => false

theorem strctB_spec {tt : TT} : ∀ {fs : List (Nat × Nat)} {l : List Field}, strctB tt fs l = true → fs.length = l.length ∧ ∀ (i : Nat) off ft, fs[i]? = some (off, ft) →
    ∃ f, l[i]? = some f ∧ f.offset = off ∧ f.type = ft ∧ (tt.at ft).ok = true
  | [], [], _ => ⟨rfl, fun i off ft h => by simp at h⟩
  | [], _ :: _, h => by simp [strctB] at h
  | _ :: _, [], h => by simp [strctB] at h
  | (off, ft) :: fs, f :: l, h => by
    simp only [strctB, Bool.and_eq_true] at h
    obtain ⟨⟨⟨h1, h2⟩, h3⟩, h4⟩ := h
    obtain ⟨k1, k2⟩ := strctB_spec h4
    refine ⟨by simp [k1], fun i off' ft' hi => ?_⟩
    cases i with
    | zero => simp at hi; obtain ⟨rfl, rfl⟩ := hi; exact ⟨f, rfl, Nat.eq_of_beq_eq_true h1, Nat.eq_of_beq_eq_true h2, h3⟩
    | succ i => simpa using k2 i off' ft' (by simpa using hi)

theorem kokB_spec {tt : TT} {k : TK} {d : TypeDesc} (h : kokB tt k d = true) : KOK tt k d := by
  unfold kokB at h
  split at h <;> first
    | rfl
    | (cases h; done)
    | skip
  · exact congrArg _ (of_decide_eq_true h)
  · exact congrArg _ (Nat.eq_of_beq_eq_true h)
  · exact congrArg _ (Nat.eq_of_beq_eq_true h)
  · simp only [Bool.and_eq_true] at h
    rw [Nat.eq_of_beq_eq_true h.1.1, Nat.eq_of_beq_eq_true h.1.2]
    exact ⟨rfl, h.2⟩
  · simp only [Bool.and_eq_true] at h
    rw [Nat.eq_of_beq_eq_true h.1.1.1, Nat.eq_of_beq_eq_true h.1.1.2]
    exact ⟨rfl, h.1.2, h.2⟩
  · rename_i fs fields
    obtain ⟨h1, h2⟩ := strctB_spec h
    refine ⟨fields, rfl, by simpa using h1, fun i off ft hi => ?_⟩
    obtain ⟨f, q1, q2⟩ := h2 i off ft hi
    exact ⟨f, by rw [← Array.getElem?_toList]; exact q1, q2⟩
  · exact ⟨_, rfl⟩
  · exact ⟨_, _, _, rfl⟩

def zeroB (k : TK) (z : Value) : Bool :=
  match k.isSl, z with
  | true, .slice none n c => Nat.beq n 0 && Nat.beq c 0
  | true, _ => false
  | false, _ => true

def tiB (P : Program) (tt : TT) (t : Nat) (ti : TI) : Bool :=
  match P.underlying t, P.info? t with
  | some d, some i => kokB tt ti.k d && match i.zero with
    | some z => Nat.beq i.size ti.size && Nat.beq i.bytes ti.bytes && vrZT ti.zero z && Nat.beq z.cells.size ti.size && Nat.beq ti.zero.cells.length ti.size && z.cells.all (·.oneCell') &&
        (!ti.cok || (Nat.beq ti.code.sz ti.size && Nat.blt 0 ti.size && Nat.blt 0 ti.bytes)) && zeroB ti.k z
    | none => false
  | _, _ => false

theorem tiB_spec {P : Program} {tt : TT} {t : Nat} {ti : TI} (h : tiB P tt t ti = true) : TIOK P tt t ti := by
  unfold tiB at h
  split at h
  case h_2 => cases h
  rename_i d i hd hi
  rw [Bool.and_eq_true] at h
  obtain ⟨hk, h⟩ := h
  split at h
  case h_2 => cases h
  rename_i z hz
  simp only [Bool.and_eq_true] at h
  obtain ⟨⟨⟨⟨⟨⟨⟨h1, h2⟩, h3⟩, h4⟩, h5⟩, h6⟩, h7⟩, h8⟩ := h
  refine ⟨⟨d, hd, kokB_spec hk⟩, ⟨i, z, hi, hz, Nat.eq_of_beq_eq_true h1, Nat.eq_of_beq_eq_true h2, fun G => vrZT_spec h3, Nat.eq_of_beq_eq_true h4, Nat.eq_of_beq_eq_true h5, h6⟩, fun hc => ?_, fun hs => ⟨i, hi, ?_⟩, ⟨i, z, hi, hz, h3⟩⟩
  rotate_left
  · unfold zeroB at h8
    rw [hs] at h8
    split at h8
    · simp only [Bool.and_eq_true] at h8
      rw [hz, Nat.eq_of_beq_eq_true h8.1, Nat.eq_of_beq_eq_true h8.2]
    · cases h8
    · rename_i q; cases q
  rw [hc] at h7
  simp only [Bool.not_true, Bool.false_or, Bool.and_eq_true] at h7
  obtain ⟨⟨q1, q2⟩, q3⟩ := h7
  rw [Nat.blt_eq] at q2 q3
  exact ⟨Nat.eq_of_beq_eq_true q1, q2, q3⟩

def ttB (P : Program) (tt : TT) : Nat → List TI → Bool
  | _, [] => true
  | n, ti :: l => (!ti.ok || tiB P tt n ti) && ttB P tt (n + 1) l

theorem ttB_spec {P : Program} {tt : TT} : ∀ (l : List TI) (n : Nat), ttB P tt n l = true → ∀ (i : Nat) ti, l[i]? = some ti → ti.ok = true → TIOK P tt (n + i) ti
  | [], n, _, i, ti, h, _ => by simp at h
  | x :: l, n, h, i, ti, hi, hok => by
    simp only [ttB, Bool.and_eq_true] at h
    cases i with
    | zero =>
      simp at hi; subst hi
      have := h.1
      rw [hok] at this
      exact tiB_spec (by simpa using this)
    | succ i =>
      have := ttB_spec l (n + 1) h.2 i ti (by simpa using hi) hok
      rwa [Nat.add_assoc, Nat.add_comm 1 i] at this

theorem ttok_of {P : Program} {tt : TT} (h : ttB P tt 0 tt = true) : TTOK P tt := by
  intro t ht
  unfold TT.at at ht ⊢
  simp only [List.getD] at ht ⊢
  cases hx : tt[t]? with
  | none => rw [hx] at ht; cases ht
  | some ti =>
    rw [hx] at ht
    have := ttB_spec tt 0 h t ti hx ht
    rw [Nat.zero_add] at this
    exact this

/-- functions that are entered, checked -/
def fnsB (P : Program) : List (Nat × Func) → Prop
  | [] => True
  | (f, fn) :: l => P.funcs[f]? = some fn ∧ fn.name ≠ "runtime.NumGoroutine" ∧ fnsB P l

theorem fnsB_spec {P : Program} : ∀ {l : List (Nat × Func)}, fnsB P l → ∀ f fn, assoc f l = some fn → P.funcs[f]? = some fn ∧ fn.name ≠ "runtime.NumGoroutine"
  | [], _, f, fn, h => by cases h
  | (k, g) :: l, hb, f, fn, h => by
    unfold assoc at h
    split at h
    · rename_i e
      cases h
      rw [← Nat.eq_of_beq_eq_true e]
      exact ⟨hb.1, hb.2.1⟩
    · exact fnsB_spec hb.2.2 f fn h

/-! the words of the printed formulas -/

/-- a list of slots, all but the told ones unknown -/
def mkL : Nat → Nat → List (Nat × TV) → List TV
  | 0, _, _ => []
  | n + 1, i, [] => tu :: mkL n (i + 1) []
  | n + 1, i, (k, x) :: l => match Nat.beq k i with
    | true => x :: mkL n (i + 1) l
    | false => tu :: mkL n (i + 1) ((k, x) :: l)

def mkS (n : Nat) (l : List (Nat × TV)) (hp : Hp) (T : Toks) : St := ⟨mkL n 0 l, hp, T⟩

def mkM : Nat → Nat → List Nat → List Bool
  | 0, _, _ => []
  | n + 1, i, [] => false :: mkM n (i + 1) []
  | n + 1, i, k :: l => match Nat.beq k i with
    | true => true :: mkM n (i + 1) l
    | false => false :: mkM n (i + 1) (k :: l)

def bd (f : Func) : Code := match f.body with
  | some c => c
  | none => .skip

def codeAt : List Nat → Code → Code
  | [], c => c
  | n :: p, c => match c with
    | .seq x y => codeAt p (match n with
      | 0 => x
      | _ => y)
    | .block _ c => codeAt p c
    | .loop c => codeAt p c
    | .cond _ x y => codeAt p (match n with
      | 0 => x
      | _ => y)
    | _ => .skip

def regOps : Code → Array Oper
  | .region _ ops _ => ops
  | _ => #[]

/-- a thing that is not to be looked into -/
structure Wrap (p : Prop) : Prop where
  out : p

theorem Wrap.cast {p q : Prop} (e : p = q) (h : Wrap p) : Wrap q := by subst e; exact h

/-- the result of a whole function -/
def topK (R : V → Prop) (x : TV) (s : St) : Prop := frz s.hp x R

/-- once more, with less to go -/
def Again {α : Type} (st : α → St) (J : α → Prop) (μ : α → Nat) (n : Nat) (s : St) : Prop := ∃ n', n' < n ∧ ∃ a, s = st a ∧ J a ∧ μ a = n'

theorem Again.mk {α : Type} {st : α → St} {J : α → Prop} {μ : α → Nat} {n : Nat} {s : St} (a : α) (hs : s = st a) (hJ : J a) (hn : μ a < n) : Again st J μ n s :=
  ⟨μ a, hn, a, hs, hJ, rfl⟩

theorem Loops.intro {α : Type} {body : (Exit → St → Prop) → St → Prop} {m : List Bool × Nat} {Q : Exit → St → Prop} {s : St} (st : α → St) (J : α → Prop) (μ : α → Nat) (a0 : α) (h0 : s = st a0) (hJ : J a0)
    (step : ∀ a, J a → body (loopQ m (Again st J μ (μ a)) Q) (st a)) : Loops body m Q s := by
  refine ⟨fun n s => ∃ a, s = st a ∧ J a ∧ μ a = n, ⟨_, a0, h0, hJ, rfl⟩, ?_⟩
  rintro n s ⟨a, rfl, hJa, rfl⟩
  exact step a hJa

end Go.Proofs.Ytaaedebknacheaa.AB

