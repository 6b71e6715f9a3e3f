/- Parts of the proof: what functions of the program compute, on plain values. -/
import Derived.Test.YtefpoodhdfggdaaABp1
import Derived.Test.YtefpoodhdfggdaaProg
import Derived.KernelRfl
import Derived.Shelf.SlIterI.Nil
import Derived.Shelf.SortM.Plain
import Derived.Shelf.SortM.SortNone
import Derived.Ground.GgzProg
import Derived.Ground.SlgmProg
import Derived.Test.YtefpoodhdfggdaaABx4
import Derived.Maps.OwnSet
import Derived.Shelf.SlicesE.DeleteFunc
import Derived.Deep.QuietTactic
import Derived.BigQuiet
import Derived.Shelf.SlGeneric
import Derived.Shelf.SlSortCmp.NoneTotal
set_option linter.unusedVariables false
set_option linter.unusedSimpArgs false
namespace Go.Proofs.Ytefpoodhdfggdaa.AB
open Go

variable {X X' : XH} {r : Nat} {d : RD} {A C : List RE} {e : RE} {o th : Int}

structure XN (X Y : XH) : Prop where
 n : X.n ≤ Y.n
 keep : ∀ k, k < X.n → Y.at k = X.at k

theorem XN.refl (X : XH) : XN X X := ⟨Nat.le_refl _, fun _ _ => rfl⟩
theorem XN.step {Y Z : XH} {S S' : List Nat} (h : XN X Y) (m : Mv Y S Z S') (hS : ∀ k ∈ S, X.n ≤ k) : XN X Z :=
 ⟨Nat.le_trans h.n m.n, fun k hk => (m.keep k (Nat.lt_of_lt_of_le hk h.n) fun q => by have := hS k q; omega).trans (h.keep k hk)⟩
theorem XN.rep {Y : XH} (h : XN X Y) (hR : RRep X r d) : RRep Y r d := hR.keep fun k hk => h.keep k (hR.lt k hk)

theorem one_row {Y Z : XH} {c : Xd} {v : c.T} (e : Z = Y.add (.arr c [v])) : SlAt Z c (some ⟨Y.n, 0, 1, 1⟩) [v] ∧ Mv Y [] Z [] := by
 subst e
 exact ⟨⟨[v], at_add_new _ _, by simp, Nat.le_refl _, rfl⟩, Nat.le_succ _, fun k hk _ => at_add_old hk, fun k hk => by cases hk⟩

def insR (l : List RM) (m : RM) : List RM := l.takeWhile (fun y => decide (y.o < m.o)) ++ m :: l.dropWhile (fun y => decide (y.o < m.o))

def enterS (l : List RM) (turn o th : Int) : (Bool × Int) × List RM × Int :=
 if o < 1 ∨ th < 1 then ((false, 1), l, turn)
 else if waitsR l th = true then ((false, 25), l, turn)
 else match findR l o with
  | none => ((true, 0), insR l ⟨o, th, 1, turn, []⟩, IntKind.wrap .i64 (turn + 1))
  | some m => if m.w = th then ((true, 0), updR l ⟨m.o, m.w, IntKind.wrap .i64 (m.n + 1), m.s, m.q⟩, turn)
   else ((false, 0), updR l ⟨m.o, m.w, m.n, m.s, m.q ++ [th]⟩, turn)

noncomputable def Qr32 (R : Bool × Int → XH → Prop) : Exit → St → Prop := retK X32.tt Try.f32.results.toList fun x s' => xfin [.pure .bool, .pure (.int .i64)] R x ⟨[], s'.hp, s'.T⟩

theorem awp_live {tt : TT} {call : CallP} {md : Mds} {h0 b : Nat} {msk : Nat → List Bool × Nat} {c : Code} {Q : Exit → St → Prop} {n : Nat} {l : List (Nat × TV)} {hp : Hp} {T : Toks} {S : St} (hs : S = mkF n l (fun i => S.tm.getD i tu) hp T)
  (h : ∀ x, awp tt call md h0 msk b c Q (mkF n l x hp T)) : awp tt call md h0 msk b c Q S := by
 rw [hs]; exact h _

theorem awp_code {tt : TT} {call : CallP} {md : Mds} {h0 b : Nat} {msk : Nat → List Bool × Nat} {c c' : Code} {Q : Exit → St → Prop} {S : St} (hc : c = c') (h : awp tt call md h0 msk b c' Q S) : awp tt call md h0 msk b c Q S := by rw [hc]; exact h

theorem to_next {K : St → Prop} {Q : Exit → St → Prop} {s : St} (h : K s) : seqK K Q .normal s := h
theorem to_exit {b : Nat} {K : Exit → St → Prop} {s : St} (h : K .normal s) : blockK b K (.exit b) s := by
 show cond (Nat.beq b b) (K .normal s) (K (.exit b) s)
 rw [Nat.beq_refl]
 exact h

theorem enter_put (h : RRep X r d) (hn : d.hs.length ≤ 1000000) (hs : d.hs = A ++ C) {R : Bool × Int → XH → Prop} {K : St → Prop} (T : Toks) (x : Nat → TV)
  (hR0 : ∀ X', RGoes X r d X' (A.map (·.1) ++ ⟨o, th, 1, d.turn, []⟩ :: C.map (·.1)) (IntKind.wrap .i64 (d.turn + 1)) → R (true, 0) X') :
  awp X32.tt (callN Try.prog X32 0) (X32.md 32) 1 (X32.mk1 32) 0 (codeAt [1, 1, 1, 1, 1, 0, 1, 0, 1, 1] (bd Try.f32)) (seqK K (Qr32 R))
   (mkF 120 [(0, (.ref (some r) yZ1 0 [])), (1, (.v (.int .i64 o))), (2, (.v (.int .i64 th))), (10, (.v (.int .i64 (A.length : Int))))] x [(some (.heap X))] T) := by
 have hlen := h.len
 have hAC : d.hs.length = A.length + C.length := by rw [hs]; simp
 have k0 : 0 ≤ (A.length : Int) := by omega
 have kN : (A.length : Int) ≤ ((slN d.L : Nat) : Int) := by omega
 have hle := h.arr.le
 have kC : (A.length : Int) ≤ ((slC d.L : Nat) : Int) := by omega
 have cA : ∀ {Y : XH}, RRep Y r d → SlAt Y cRM (slCut d.L 0 ((A.length : Int)).toNat (slC d.L)) (A.map fun e => e.1.v e.2) := fun {Y} hY => by
  have ha := hY.arr
  rw [Int.toNat_natCast]
  cases hL : d.L with
  | none =>
   rw [hL] at hlen
   have : A = [] := List.eq_nil_of_length_eq_zero (by simp [slN] at hlen; omega)
   subst this
   rfl
  | some u =>
   rw [hL] at ha hlen
   have hul : u.len = d.hs.length := hlen
   have huc : u.len ≤ u.cap := ha.le
   have := ha.cut (p := 0) (q := A.length) (m := u.cap) (by omega) (by omega) (by omega) (by omega)
   have e : ((d.hs.map fun e => e.1.v e.2).take A.length).drop 0 = A.map fun e => e.1.v e.2 := by rw [hs]; simp
   rw [e] at this
   exact this
 have cC : ∀ {Y : XH}, RRep Y r d → SlAt Y cRM (slCut d.L ((A.length : Int)).toNat (slN d.L) (slC d.L)) (C.map fun e => e.1.v e.2) := fun {Y} hY => by
  have ha := hY.arr
  rw [Int.toNat_natCast]
  cases hL : d.L with
  | none =>
   rw [hL] at hlen
   have : C = [] := List.eq_nil_of_length_eq_zero (by simp [slN] at hlen; omega)
   subst this
   rfl
  | some u =>
   rw [hL] at ha hlen
   have hul : u.len = d.hs.length := hlen
   have huc : u.len ≤ u.cap := ha.le
   have := ha.cut (p := A.length) (q := u.len) (m := u.cap) (by omega) (by omega) (by omega) (by omega)
   have e : ((d.hs.map fun e => e.1.v e.2).take u.len).drop A.length = C.map fun e => e.1.v e.2 := by
    rw [hul, List.take_of_length_le (by simp), hs]
    simp [List.drop_append]
   rw [e] at this
   exact this
 have rA : (0 + (A.map fun e => e.1.v e.2).length) * 56 ≤ room := by rw [List.length_map]; show _ ≤ 140737488355328; omega
 have rN : (A.length + 1) * 56 ≤ room := by show _ ≤ 140737488355328; omega
 have rC : (A.length + 1 + (C.map fun e => e.1.v e.2).length) * 56 ≤ room := by rw [List.length_map]; show _ ≤ 140737488355328; omega
 have fin : ∀ {Y : XH} {s24 : Option SlH}, XN X Y → (∀ k ∈ hl s24, X.n ≤ k) → SlAt Y cRM s24 (((A.map fun e => e.1.v e.2) ++ [(o, th, (1 : Int), d.turn, none)]) ++ C.map fun e => e.1.v e.2) → ∀ Y6 : XH, Y6 = Y.setEl cRT r 0 (s24, d.turn) →
   ∃ d2, RRep Y6 r d2 ∧ Mv X (d.ks r) Y6 (d2.ks r) ∧ d2.l = A.map (·.1) ++ ⟨o, th, 1, d.turn, []⟩ :: C.map (·.1) ∧ d2.turn = d.turn ∧ d2.L = s24 := by
  intro Y s24 mX n24 t24 Y6 e6
  have hb : Box Y cRT r (d.L, d.turn) := (mX.rep h).box
  have e6 := e6.trans hb.setEl
  have hpw := h.pw
  rw [hs, List.pairwise_append] at hpw
  obtain ⟨p1, p2, p3⟩ := hpw
  obtain ⟨q1, q2⟩ := h.listTo (hs1 := A ++ ((⟨o, th, 1, d.turn, []⟩ : RM), none) :: C) ⟨mX.n, fun k hk _ => mX.keep k hk, fun k hk => .inr (n24 k hk)⟩ (by
   rw [List.map_append, List.map_cons]
   rw [List.append_assoc] at t24
   exact t24) (fun y hy => by
    rw [hs]
    rcases List.mem_append.1 hy with hy | hy
    ·exact .inl (List.mem_append_left _ hy)
    ·rcases List.mem_cons.1 hy with rfl | hy
     ·exact .inr ⟨rfl, rfl⟩
     ·exact .inl (List.mem_append_right _ hy)) (by
    rw [List.pairwise_append, List.pairwise_cons]
    refine ⟨p1, ⟨fun y hy k hk => (by cases hk), p2⟩, fun a ha b hb => ?_⟩
    rcases List.mem_cons.1 hb with rfl | hb
    ·intro k hk q; cases q
    ·exact p3 a ha b hb)
  rw [← e6] at q1 q2
  exact ⟨_, q1, q2, by simp [RD.l], rfl, rfl⟩
 have fin2 : ∀ {Y6 : XH} {d2 : RD} {s24 : Option SlH}, RRep Y6 r d2 → Mv X (d.ks r) Y6 (d2.ks r) → d2.l = A.map (·.1) ++ ⟨o, th, 1, d.turn, []⟩ :: C.map (·.1) → d2.turn = d.turn → d2.L = s24 → ∀ Y7 : XH, Y7 = Y6.setEl cRT r 0 (d2.L, IntKind.wrap .i64 (d2.turn + 1)) → R (true, 0) Y7 := by
  intro Y6 d2 s24 z1 z2 z3 z4 z5 Y7 e7
  have e7 := e7.trans z1.box.setEl
  obtain ⟨q1, q2⟩ := z1.turnTo (IntKind.wrap .i64 (d2.turn + 1))
  rw [← e7] at q1 q2
  exact hR0 Y7 ⟨_, q1, z2.trans q2, z3, by rw [z4]⟩
 have mX : XN X X := .refl X
 have hR := h
 refine G32_3 x r o th A.length X T ⟨?_, ?_, ?_, ?_, ?_, ?_, ?_, ?_, ?_, trivial⟩
 ·refine ⟨_, hR.box.el, k0, kC, ?_⟩
  refine ⟨[], _, rfl, by rw [srcX_sl]; exact (cA hR).view, rA, fun Y8 s8 x8 => ?_⟩
  obtain ⟨t8, u8⟩ := x8.spec (rfl : SlAt _ cRM none [])
  have t8 : SlAt Y8 cRM s8 (A.map fun e => e.1.v e.2) := t8
  have n8 : ∀ k ∈ hl s8, X.n ≤ k := fun k hk => (u8.own k hk).elim (fun q => by cases q) fun q => Nat.le_trans mX.n q
  have mX : XN X Y8 := mX.step u8 (fun k hk => by cases hk)
  have hR : RRep Y8 r d := mX.rep h
  refine ⟨_, hR.box.el, ?_⟩
  refine fun Y16 e16 => ?_
  obtain ⟨bN, u16⟩ := one_row e16
  have t8 := t8.keep (X' := Y16) fun k hk => u16.keep k (t8.lt k hk) (by simp)
  have mX : XN X Y16 := mX.step u16 (fun k hk => by cases hk)
  have hR : RRep Y16 r d := mX.rep h
  refine ⟨_, _, t8.view, by rw [srcX_sl]; exact bN.view, by rw [t8.len, List.length_map]; exact rN, fun Y17 s17 x17 => ?_⟩
  obtain ⟨t17, u17⟩ := x17.spec t8
  have n17 : ∀ k ∈ hl s17, X.n ≤ k := fun k hk => (u17.own k hk).elim (n8 k) fun q => Nat.le_trans mX.n q
  have mX : XN X Y17 := mX.step u17 n8
  have hR : RRep Y17 r d := mX.rep h
  refine ⟨_, hR.box.el, k0, kN, ?_⟩
  refine ⟨_, _, t17.view, by rw [srcX_sl]; exact (cC hR).view, by rw [t17.len, List.length_append, List.length_map]; exact rC, fun Y24 s24 x24 => ?_⟩
  obtain ⟨t24, u24⟩ := x24.spec t17
  have n24 : ∀ k ∈ hl s24, X.n ≤ k := fun k hk => (u24.own k hk).elim (n17 k) fun q => Nat.le_trans mX.n q
  have mX : XN X Y24 := mX.step u24 n17
  have hR : RRep Y24 r d := mX.rep h
  refine ⟨_, hR.box.el, fun Y6 e6 => ?_⟩
  obtain ⟨d2, z1, z2, z3, z4, z5⟩ := fin mX n24 t24 Y6 e6
  refine ⟨_, z1.box.el, _, z1.box.el, fun Y7 e7 => ?_⟩
  exact Eq.mp (by kernel_rfl) (fin2 z1 z2 z3 z4 z5 Y7 e7)
 ·refine ⟨_, hR.box.el, k0, kC, ?_⟩
  refine ⟨[], _, rfl, by rw [srcX_sl]; exact (cA hR).view, rA, fun Y8 s8 x8 => ?_⟩
  obtain ⟨t8, u8⟩ := x8.spec (rfl : SlAt _ cRM none [])
  have t8 : SlAt Y8 cRM s8 (A.map fun e => e.1.v e.2) := t8
  have n8 : ∀ k ∈ hl s8, X.n ≤ k := fun k hk => (u8.own k hk).elim (fun q => by cases q) fun q => Nat.le_trans mX.n q
  have mX : XN X Y8 := mX.step u8 (fun k hk => by cases hk)
  have hR : RRep Y8 r d := mX.rep h
  refine ⟨_, hR.box.el, ?_⟩
  refine ⟨_, hR.box.el, k0, kN, ?_⟩
  refine fun Y16 e16 => ?_
  obtain ⟨bN, u16⟩ := one_row e16
  have t8 := t8.keep (X' := Y16) fun k hk => u16.keep k (t8.lt k hk) (by simp)
  have mX : XN X Y16 := mX.step u16 (fun k hk => by cases hk)
  have hR : RRep Y16 r d := mX.rep h
  refine ⟨_, _, t8.view, by rw [srcX_sl]; exact bN.view, by rw [t8.len, List.length_map]; exact rN, fun Y17 s17 x17 => ?_⟩
  obtain ⟨t17, u17⟩ := x17.spec t8
  have n17 : ∀ k ∈ hl s17, X.n ≤ k := fun k hk => (u17.own k hk).elim (n8 k) fun q => Nat.le_trans mX.n q
  have mX : XN X Y17 := mX.step u17 n8
  have hR : RRep Y17 r d := mX.rep h
  refine ⟨_, _, t17.view, by rw [srcX_sl]; exact (cC hR).view, by rw [t17.len, List.length_append, List.length_map]; exact rC, fun Y24 s24 x24 => ?_⟩
  obtain ⟨t24, u24⟩ := x24.spec t17
  have n24 : ∀ k ∈ hl s24, X.n ≤ k := fun k hk => (u24.own k hk).elim (n17 k) fun q => Nat.le_trans mX.n q
  have mX : XN X Y24 := mX.step u24 n17
  have hR : RRep Y24 r d := mX.rep h
  refine ⟨_, hR.box.el, fun Y6 e6 => ?_⟩
  obtain ⟨d2, z1, z2, z3, z4, z5⟩ := fin mX n24 t24 Y6 e6
  refine ⟨_, z1.box.el, _, z1.box.el, fun Y7 e7 => ?_⟩
  exact Eq.mp (by kernel_rfl) (fin2 z1 z2 z3 z4 z5 Y7 e7)
 ·refine ⟨_, hR.box.el, k0, kC, ?_⟩
  refine ⟨_, hR.box.el, k0, kN, ?_⟩
  refine ⟨[], _, rfl, by rw [srcX_sl]; exact (cA hR).view, rA, fun Y8 s8 x8 => ?_⟩
  obtain ⟨t8, u8⟩ := x8.spec (rfl : SlAt _ cRM none [])
  have t8 : SlAt Y8 cRM s8 (A.map fun e => e.1.v e.2) := t8
  have n8 : ∀ k ∈ hl s8, X.n ≤ k := fun k hk => (u8.own k hk).elim (fun q => by cases q) fun q => Nat.le_trans mX.n q
  have mX : XN X Y8 := mX.step u8 (fun k hk => by cases hk)
  have hR : RRep Y8 r d := mX.rep h
  refine ⟨_, hR.box.el, ?_⟩
  refine fun Y16 e16 => ?_
  obtain ⟨bN, u16⟩ := one_row e16
  have t8 := t8.keep (X' := Y16) fun k hk => u16.keep k (t8.lt k hk) (by simp)
  have mX : XN X Y16 := mX.step u16 (fun k hk => by cases hk)
  have hR : RRep Y16 r d := mX.rep h
  refine ⟨_, _, t8.view, by rw [srcX_sl]; exact bN.view, by rw [t8.len, List.length_map]; exact rN, fun Y17 s17 x17 => ?_⟩
  obtain ⟨t17, u17⟩ := x17.spec t8
  have n17 : ∀ k ∈ hl s17, X.n ≤ k := fun k hk => (u17.own k hk).elim (n8 k) fun q => Nat.le_trans mX.n q
  have mX : XN X Y17 := mX.step u17 n8
  have hR : RRep Y17 r d := mX.rep h
  refine ⟨_, _, t17.view, by rw [srcX_sl]; exact (cC hR).view, by rw [t17.len, List.length_append, List.length_map]; exact rC, fun Y24 s24 x24 => ?_⟩
  obtain ⟨t24, u24⟩ := x24.spec t17
  have n24 : ∀ k ∈ hl s24, X.n ≤ k := fun k hk => (u24.own k hk).elim (n17 k) fun q => Nat.le_trans mX.n q
  have mX : XN X Y24 := mX.step u24 n17
  have hR : RRep Y24 r d := mX.rep h
  refine ⟨_, hR.box.el, fun Y6 e6 => ?_⟩
  obtain ⟨d2, z1, z2, z3, z4, z5⟩ := fin mX n24 t24 Y6 e6
  refine ⟨_, z1.box.el, _, z1.box.el, fun Y7 e7 => ?_⟩
  exact Eq.mp (by kernel_rfl) (fin2 z1 z2 z3 z4 z5 Y7 e7)
 ·refine ⟨_, hR.box.el, k0, kC, ?_⟩
  refine ⟨_, hR.box.el, ?_⟩
  refine ⟨[], _, rfl, by rw [srcX_sl]; exact (cA hR).view, rA, fun Y8 s8 x8 => ?_⟩
  obtain ⟨t8, u8⟩ := x8.spec (rfl : SlAt _ cRM none [])
  have t8 : SlAt Y8 cRM s8 (A.map fun e => e.1.v e.2) := t8
  have n8 : ∀ k ∈ hl s8, X.n ≤ k := fun k hk => (u8.own k hk).elim (fun q => by cases q) fun q => Nat.le_trans mX.n q
  have mX : XN X Y8 := mX.step u8 (fun k hk => by cases hk)
  have hR : RRep Y8 r d := mX.rep h
  refine fun Y16 e16 => ?_
  obtain ⟨bN, u16⟩ := one_row e16
  have t8 := t8.keep (X' := Y16) fun k hk => u16.keep k (t8.lt k hk) (by simp)
  have mX : XN X Y16 := mX.step u16 (fun k hk => by cases hk)
  have hR : RRep Y16 r d := mX.rep h
  refine ⟨_, _, t8.view, by rw [srcX_sl]; exact bN.view, by rw [t8.len, List.length_map]; exact rN, fun Y17 s17 x17 => ?_⟩
  obtain ⟨t17, u17⟩ := x17.spec t8
  have n17 : ∀ k ∈ hl s17, X.n ≤ k := fun k hk => (u17.own k hk).elim (n8 k) fun q => Nat.le_trans mX.n q
  have mX : XN X Y17 := mX.step u17 n8
  have hR : RRep Y17 r d := mX.rep h
  refine ⟨_, hR.box.el, k0, kN, ?_⟩
  refine ⟨_, _, t17.view, by rw [srcX_sl]; exact (cC hR).view, by rw [t17.len, List.length_append, List.length_map]; exact rC, fun Y24 s24 x24 => ?_⟩
  obtain ⟨t24, u24⟩ := x24.spec t17
  have n24 : ∀ k ∈ hl s24, X.n ≤ k := fun k hk => (u24.own k hk).elim (n17 k) fun q => Nat.le_trans mX.n q
  have mX : XN X Y24 := mX.step u24 n17
  have hR : RRep Y24 r d := mX.rep h
  refine ⟨_, hR.box.el, fun Y6 e6 => ?_⟩
  obtain ⟨d2, z1, z2, z3, z4, z5⟩ := fin mX n24 t24 Y6 e6
  refine ⟨_, z1.box.el, _, z1.box.el, fun Y7 e7 => ?_⟩
  exact Eq.mp (by kernel_rfl) (fin2 z1 z2 z3 z4 z5 Y7 e7)
 ·refine ⟨_, hR.box.el, k0, kC, ?_⟩
  refine ⟨_, hR.box.el, ?_⟩
  refine ⟨[], _, rfl, by rw [srcX_sl]; exact (cA hR).view, rA, fun Y8 s8 x8 => ?_⟩
  obtain ⟨t8, u8⟩ := x8.spec (rfl : SlAt _ cRM none [])
  have t8 : SlAt Y8 cRM s8 (A.map fun e => e.1.v e.2) := t8
  have n8 : ∀ k ∈ hl s8, X.n ≤ k := fun k hk => (u8.own k hk).elim (fun q => by cases q) fun q => Nat.le_trans mX.n q
  have mX : XN X Y8 := mX.step u8 (fun k hk => by cases hk)
  have hR : RRep Y8 r d := mX.rep h
  refine ⟨_, hR.box.el, k0, kN, ?_⟩
  refine fun Y16 e16 => ?_
  obtain ⟨bN, u16⟩ := one_row e16
  have t8 := t8.keep (X' := Y16) fun k hk => u16.keep k (t8.lt k hk) (by simp)
  have mX : XN X Y16 := mX.step u16 (fun k hk => by cases hk)
  have hR : RRep Y16 r d := mX.rep h
  refine ⟨_, _, t8.view, by rw [srcX_sl]; exact bN.view, by rw [t8.len, List.length_map]; exact rN, fun Y17 s17 x17 => ?_⟩
  obtain ⟨t17, u17⟩ := x17.spec t8
  have n17 : ∀ k ∈ hl s17, X.n ≤ k := fun k hk => (u17.own k hk).elim (n8 k) fun q => Nat.le_trans mX.n q
  have mX : XN X Y17 := mX.step u17 n8
  have hR : RRep Y17 r d := mX.rep h
  refine ⟨_, _, t17.view, by rw [srcX_sl]; exact (cC hR).view, by rw [t17.len, List.length_append, List.length_map]; exact rC, fun Y24 s24 x24 => ?_⟩
  obtain ⟨t24, u24⟩ := x24.spec t17
  have n24 : ∀ k ∈ hl s24, X.n ≤ k := fun k hk => (u24.own k hk).elim (n17 k) fun q => Nat.le_trans mX.n q
  have mX : XN X Y24 := mX.step u24 n17
  have hR : RRep Y24 r d := mX.rep h
  refine ⟨_, hR.box.el, fun Y6 e6 => ?_⟩
  obtain ⟨d2, z1, z2, z3, z4, z5⟩ := fin mX n24 t24 Y6 e6
  refine ⟨_, z1.box.el, _, z1.box.el, fun Y7 e7 => ?_⟩
  exact Eq.mp (by kernel_rfl) (fin2 z1 z2 z3 z4 z5 Y7 e7)
 ·refine ⟨_, hR.box.el, k0, kC, ?_⟩
  refine ⟨_, hR.box.el, ?_⟩
  refine ⟨_, hR.box.el, k0, kN, ?_⟩
  refine ⟨[], _, rfl, by rw [srcX_sl]; exact (cA hR).view, rA, fun Y8 s8 x8 => ?_⟩
  obtain ⟨t8, u8⟩ := x8.spec (rfl : SlAt _ cRM none [])
  have t8 : SlAt Y8 cRM s8 (A.map fun e => e.1.v e.2) := t8
  have n8 : ∀ k ∈ hl s8, X.n ≤ k := fun k hk => (u8.own k hk).elim (fun q => by cases q) fun q => Nat.le_trans mX.n q
  have mX : XN X Y8 := mX.step u8 (fun k hk => by cases hk)
  have hR : RRep Y8 r d := mX.rep h
  refine fun Y16 e16 => ?_
  obtain ⟨bN, u16⟩ := one_row e16
  have t8 := t8.keep (X' := Y16) fun k hk => u16.keep k (t8.lt k hk) (by simp)
  have mX : XN X Y16 := mX.step u16 (fun k hk => by cases hk)
  have hR : RRep Y16 r d := mX.rep h
  refine ⟨_, _, t8.view, by rw [srcX_sl]; exact bN.view, by rw [t8.len, List.length_map]; exact rN, fun Y17 s17 x17 => ?_⟩
  obtain ⟨t17, u17⟩ := x17.spec t8
  have n17 : ∀ k ∈ hl s17, X.n ≤ k := fun k hk => (u17.own k hk).elim (n8 k) fun q => Nat.le_trans mX.n q
  have mX : XN X Y17 := mX.step u17 n8
  have hR : RRep Y17 r d := mX.rep h
  refine ⟨_, _, t17.view, by rw [srcX_sl]; exact (cC hR).view, by rw [t17.len, List.length_append, List.length_map]; exact rC, fun Y24 s24 x24 => ?_⟩
  obtain ⟨t24, u24⟩ := x24.spec t17
  have n24 : ∀ k ∈ hl s24, X.n ≤ k := fun k hk => (u24.own k hk).elim (n17 k) fun q => Nat.le_trans mX.n q
  have mX : XN X Y24 := mX.step u24 n17
  have hR : RRep Y24 r d := mX.rep h
  refine ⟨_, hR.box.el, fun Y6 e6 => ?_⟩
  obtain ⟨d2, z1, z2, z3, z4, z5⟩ := fin mX n24 t24 Y6 e6
  refine ⟨_, z1.box.el, _, z1.box.el, fun Y7 e7 => ?_⟩
  exact Eq.mp (by kernel_rfl) (fin2 z1 z2 z3 z4 z5 Y7 e7)
 ·refine ⟨_, hR.box.el, k0, kC, ?_⟩
  refine ⟨_, hR.box.el, ?_⟩
  refine fun Y16 e16 => ?_
  obtain ⟨bN, u16⟩ := one_row e16
  have mX : XN X Y16 := mX.step u16 (fun k hk => by cases hk)
  have hR : RRep Y16 r d := mX.rep h
  refine ⟨[], _, rfl, by rw [srcX_sl]; exact (cA hR).view, rA, fun Y8 s8 x8 => ?_⟩
  obtain ⟨t8, u8⟩ := x8.spec (rfl : SlAt _ cRM none [])
  have t8 : SlAt Y8 cRM s8 (A.map fun e => e.1.v e.2) := t8
  have n8 : ∀ k ∈ hl s8, X.n ≤ k := fun k hk => (u8.own k hk).elim (fun q => by cases q) fun q => Nat.le_trans mX.n q
  have bN := bN.keep (X' := Y8) fun k hk => u8.keep k (bN.lt k hk) (by simp [hl])
  have mX : XN X Y8 := mX.step u8 (fun k hk => by cases hk)
  have hR : RRep Y8 r d := mX.rep h
  refine ⟨_, _, t8.view, by rw [srcX_sl]; exact bN.view, by rw [t8.len, List.length_map]; exact rN, fun Y17 s17 x17 => ?_⟩
  obtain ⟨t17, u17⟩ := x17.spec t8
  have n17 : ∀ k ∈ hl s17, X.n ≤ k := fun k hk => (u17.own k hk).elim (n8 k) fun q => Nat.le_trans mX.n q
  have mX : XN X Y17 := mX.step u17 n8
  have hR : RRep Y17 r d := mX.rep h
  refine ⟨_, hR.box.el, k0, kN, ?_⟩
  refine ⟨_, _, t17.view, by rw [srcX_sl]; exact (cC hR).view, by rw [t17.len, List.length_append, List.length_map]; exact rC, fun Y24 s24 x24 => ?_⟩
  obtain ⟨t24, u24⟩ := x24.spec t17
  have n24 : ∀ k ∈ hl s24, X.n ≤ k := fun k hk => (u24.own k hk).elim (n17 k) fun q => Nat.le_trans mX.n q
  have mX : XN X Y24 := mX.step u24 n17
  have hR : RRep Y24 r d := mX.rep h
  refine ⟨_, hR.box.el, fun Y6 e6 => ?_⟩
  obtain ⟨d2, z1, z2, z3, z4, z5⟩ := fin mX n24 t24 Y6 e6
  refine ⟨_, z1.box.el, _, z1.box.el, fun Y7 e7 => ?_⟩
  exact Eq.mp (by kernel_rfl) (fin2 z1 z2 z3 z4 z5 Y7 e7)
 ·refine ⟨_, hR.box.el, k0, kC, ?_⟩
  refine ⟨_, hR.box.el, ?_⟩
  refine fun Y16 e16 => ?_
  obtain ⟨bN, u16⟩ := one_row e16
  have mX : XN X Y16 := mX.step u16 (fun k hk => by cases hk)
  have hR : RRep Y16 r d := mX.rep h
  refine ⟨[], _, rfl, by rw [srcX_sl]; exact (cA hR).view, rA, fun Y8 s8 x8 => ?_⟩
  obtain ⟨t8, u8⟩ := x8.spec (rfl : SlAt _ cRM none [])
  have t8 : SlAt Y8 cRM s8 (A.map fun e => e.1.v e.2) := t8
  have n8 : ∀ k ∈ hl s8, X.n ≤ k := fun k hk => (u8.own k hk).elim (fun q => by cases q) fun q => Nat.le_trans mX.n q
  have bN := bN.keep (X' := Y8) fun k hk => u8.keep k (bN.lt k hk) (by simp [hl])
  have mX : XN X Y8 := mX.step u8 (fun k hk => by cases hk)
  have hR : RRep Y8 r d := mX.rep h
  refine ⟨_, hR.box.el, k0, kN, ?_⟩
  refine ⟨_, _, t8.view, by rw [srcX_sl]; exact bN.view, by rw [t8.len, List.length_map]; exact rN, fun Y17 s17 x17 => ?_⟩
  obtain ⟨t17, u17⟩ := x17.spec t8
  have n17 : ∀ k ∈ hl s17, X.n ≤ k := fun k hk => (u17.own k hk).elim (n8 k) fun q => Nat.le_trans mX.n q
  have mX : XN X Y17 := mX.step u17 n8
  have hR : RRep Y17 r d := mX.rep h
  refine ⟨_, _, t17.view, by rw [srcX_sl]; exact (cC hR).view, by rw [t17.len, List.length_append, List.length_map]; exact rC, fun Y24 s24 x24 => ?_⟩
  obtain ⟨t24, u24⟩ := x24.spec t17
  have n24 : ∀ k ∈ hl s24, X.n ≤ k := fun k hk => (u24.own k hk).elim (n17 k) fun q => Nat.le_trans mX.n q
  have mX : XN X Y24 := mX.step u24 n17
  have hR : RRep Y24 r d := mX.rep h
  refine ⟨_, hR.box.el, fun Y6 e6 => ?_⟩
  obtain ⟨d2, z1, z2, z3, z4, z5⟩ := fin mX n24 t24 Y6 e6
  refine ⟨_, z1.box.el, _, z1.box.el, fun Y7 e7 => ?_⟩
  exact Eq.mp (by kernel_rfl) (fin2 z1 z2 z3 z4 z5 Y7 e7)
 ·refine ⟨_, hR.box.el, k0, kC, ?_⟩
  refine ⟨_, hR.box.el, ?_⟩
  refine ⟨_, hR.box.el, k0, kN, ?_⟩
  refine fun Y16 e16 => ?_
  obtain ⟨bN, u16⟩ := one_row e16
  have mX : XN X Y16 := mX.step u16 (fun k hk => by cases hk)
  have hR : RRep Y16 r d := mX.rep h
  refine ⟨[], _, rfl, by rw [srcX_sl]; exact (cA hR).view, rA, fun Y8 s8 x8 => ?_⟩
  obtain ⟨t8, u8⟩ := x8.spec (rfl : SlAt _ cRM none [])
  have t8 : SlAt Y8 cRM s8 (A.map fun e => e.1.v e.2) := t8
  have n8 : ∀ k ∈ hl s8, X.n ≤ k := fun k hk => (u8.own k hk).elim (fun q => by cases q) fun q => Nat.le_trans mX.n q
  have bN := bN.keep (X' := Y8) fun k hk => u8.keep k (bN.lt k hk) (by simp [hl])
  have mX : XN X Y8 := mX.step u8 (fun k hk => by cases hk)
  have hR : RRep Y8 r d := mX.rep h
  refine ⟨_, _, t8.view, by rw [srcX_sl]; exact bN.view, by rw [t8.len, List.length_map]; exact rN, fun Y17 s17 x17 => ?_⟩
  obtain ⟨t17, u17⟩ := x17.spec t8
  have n17 : ∀ k ∈ hl s17, X.n ≤ k := fun k hk => (u17.own k hk).elim (n8 k) fun q => Nat.le_trans mX.n q
  have mX : XN X Y17 := mX.step u17 n8
  have hR : RRep Y17 r d := mX.rep h
  refine ⟨_, _, t17.view, by rw [srcX_sl]; exact (cC hR).view, by rw [t17.len, List.length_append, List.length_map]; exact rC, fun Y24 s24 x24 => ?_⟩
  obtain ⟨t24, u24⟩ := x24.spec t17
  have n24 : ∀ k ∈ hl s24, X.n ≤ k := fun k hk => (u24.own k hk).elim (n17 k) fun q => Nat.le_trans mX.n q
  have mX : XN X Y24 := mX.step u24 n17
  have hR : RRep Y24 r d := mX.rep h
  refine ⟨_, hR.box.el, fun Y6 e6 => ?_⟩
  obtain ⟨d2, z1, z2, z3, z4, z5⟩ := fin mX n24 t24 Y6 e6
  refine ⟨_, z1.box.el, _, z1.box.el, fun Y7 e7 => ?_⟩
  exact Eq.mp (by kernel_rfl) (fin2 z1 z2 z3 z4 z5 Y7 e7)

end Go.Proofs.Ytefpoodhdfggdaa.AB

namespace Go.Proofs.Ytefpoodhdfggdaa.AB
open Go

variable {X X' : XH} {r : Nat} {d : RD} {A C : List RE} {e : RE} {o th : Int}

theorem insR_at {A C : List RM} {m : RM} (hA : ∀ y ∈ A, y.o < m.o) (hC : ∀ y C', C = y :: C' → ¬ y.o < m.o) : insR (A ++ C) m = A ++ m :: C := by
 unfold insR
 have h1 : (A ++ C).takeWhile (fun y => decide (y.o < m.o)) = A := by
  rw [List.takeWhile_append_of_pos fun y hy => by simpa using hA y hy]
  cases C with
  | nil => simp
  | cons y C' => rw [List.takeWhile_cons_of_neg (by simpa using hC y C' rfl), List.append_nil]
 have h2 : (A ++ C).dropWhile (fun y => decide (y.o < m.o)) = C := by
  rw [List.dropWhile_append_of_pos fun y hy => by simpa using hA y hy]
  cases C with
  | nil => rfl
  | cons y C' => rw [List.dropWhile_cons_of_neg (by simpa using hC y C' rfl)]
 rw [h1, h2]

theorem c32 (h : RRep X r d) (hn : d.hs.length ≤ 1000000) (hq : ∀ m ∈ d.l, m.q.length ≤ 1000000) (hnd : (d.l.map (·.o)).Nodup) : XC Try.prog 32 [.pure .bool, .pure (.int .i64)] [.ref (some r) cRT 0 [], .v (.int .i64 o), .v (.int .i64 th)] X
  fun p X' => p = (enterS d.l d.turn o th).1 ∧ RGoes X r d X' (enterS d.l d.turn o th).2.1 (enterS d.l d.turn o th).2.2 := by
 have hlen := h.len
 obtain ⟨R, hRdef⟩ : ∃ R : Bool × Int → XH → Prop, R = fun p X' => p = (enterS d.l d.turn o th).1 ∧ RGoes X r d X' (enterS d.l d.turn o th).2.1 (enterS d.l d.turn o th).2.2 := ⟨_, rfl⟩
 rw [show (fun (p : xresT [.pure .bool, .pure (.int .i64)]) (X' : XH) => p = (enterS d.l d.turn o th).1 ∧ RGoes X r d X' (enterS d.l d.turn o th).2.1 (enterS d.l d.turn o th).2.2) = R from hRdef.symm]
 refine xcOf (X := X32) (d := 0) rfl FN32 (by kernel_rfl) (by decide) (fnK_of (c := bd Try.f32) (h0 := 1) (Q := Qr32 R) (S := mkF 120 [(0, (.ref (some r) yZ1 0 [])), (1, (.v (.int .i64 o))), (2, (.v (.int .i64 th)))] (fun _ => tu) [(some (.heap X))] ⟨0, []⟩) rfl ⟨by kernel_rfl, rfl, rfl⟩ ?_)
 refine awp_code (c' := codeAt [] (bd Try.f32)) (by kernel_rfl) ?_
 refine G32_0 (fun _ => tu) X r o th ⟨fun e => ?_, fun e => ⟨fun e2 => ?_, fun e2 => ⟨_, c63 h hn hq, fun e3 => ?_, fun e3 => ⟨_, c64 h hn, ?_⟩⟩⟩⟩
 ·have : R (false, 1) X := by
   rw [hRdef]
   have : enterS d.l d.turn o th = ((false, 1), d.l, d.turn) := by unfold enterS; rw [if_pos (.inl (of_decide_eq_true e))]
   rw [this]; exact ⟨rfl, .refl h⟩
  exact Eq.mp (by kernel_rfl) this
 ·have : R (false, 1) X := by
   rw [hRdef]
   have : enterS d.l d.turn o th = ((false, 1), d.l, d.turn) := by unfold enterS; rw [if_pos (.inr (of_decide_eq_true e2))]
   rw [this]; exact ⟨rfl, .refl h⟩
  exact Eq.mp (by kernel_rfl) this
 ·have hno : ¬ (o < 1 ∨ th < 1) := fun q => q.elim (of_decide_eq_false e) (of_decide_eq_false e2)
  have : R (false, 25) X := by
   rw [hRdef]
   have : enterS d.l d.turn o th = ((false, 25), d.l, d.turn) := by unfold enterS; rw [if_neg hno, if_pos e3]
   rw [this]; exact ⟨rfl, .refl h⟩
  exact Eq.mp (by kernel_rfl) this
 have hno : ¬ (o < 1 ∨ th < 1) := fun q => q.elim (of_decide_eq_false e) (of_decide_eq_false e2)
 have hw : ¬ waitsR d.l th = true := fun q => by
  have e3 : waitsR d.l th = false := e3
  rw [q] at e3; cases e3
 generalize hp : idxR d.l o = p
 refine awp_seq (x := codeAt [1, 1, 1, 1, 1, 0] (bd Try.f32)) (y := codeAt [1, 1, 1, 1, 1, 1] (bd Try.f32)) (by kernel_rfl) ?_
 refine awp_live (n := 120) (hp := [(some (.heap X))]) (T := ⟨0, []⟩) (l := [(0, (.ref (some r) yZ1 0 [])), (1, (.v (.int .i64 o))), (2, (.v (.int .i64 th))), (9, (.v (.int .i64 p)))]) (by kernel_rfl) fun x => ?_
 refine G32_1 x r o th p X ⟨0, []⟩ ⟨fun e5 => ?_, fun e5 => ?_⟩
 ·-- nobody holds it
  have e5 : p < 0 := of_decide_eq_true e5
  have hnone : ∀ y ∈ d.hs, y.1.o ≠ o := by
   rcases idxR_cases d.hs o with ⟨_, e6⟩ | ⟨A, e, C, _, _, _, e6⟩
   ·exact e6
   ·have e6 : idxR d.l o = (A.length : Int) := e6
    omega
  have hent : enterS d.l d.turn o th = ((true, 0), insR d.l ⟨o, th, 1, d.turn, []⟩, IntKind.wrap .i64 (d.turn + 1)) := by
   unfold enterS; rw [if_neg hno, if_neg hw, findR_no hnone]
  refine awp_seq (x := codeAt [1, 1, 1, 1, 1, 0, 1, 0, 1, 0] (bd Try.f32)) (y := codeAt [1, 1, 1, 1, 1, 0, 1, 0, 1, 1] (bd Try.f32)) (by kernel_rfl) ?_
  refine awp_live (n := 120) (hp := [(some (.heap X))]) (T := ⟨0, []⟩) (l := [(0, (.ref (some r) yZ1 0 [])), (1, (.v (.int .i64 o))), (2, (.v (.int .i64 th))), (10, (.v (.int .i64 0)))]) (by kernel_rfl) fun x1 => ?_
  refine G32_2 x1 r o th 0 X ⟨0, []⟩ ?_
  refine Loops.intro (fun k : Nat => S32_0 r o th (k : Int) X ⟨0, []⟩) (fun k => k ≤ d.hs.length ∧ ∀ y ∈ d.hs.take k, y.1.o < o) (fun k => d.hs.length - k) 0 rfl ⟨Nat.zero_le _, fun y hy => by simp at hy⟩ ?_
  rintro k ⟨hk, hall⟩
  have out : ∀ (hC : ∀ y C', d.hs.drop k = y :: C' → ¬ y.1.o < o) (x : Nat → TV), awp X32.tt (callN Try.prog X32 0) (X32.md 32) 1 (X32.mk1 32) 0 (codeAt [1, 1, 1, 1, 1, 0, 1, 0, 1, 1] (bd Try.f32)) (seqK (awp X32.tt (callN Try.prog X32 0) (X32.md 32) 1 (X32.mk1 32) 0 (codeAt [1, 1, 1, 1, 1, 1] (bd Try.f32)) (Qr32 R)) (Qr32 R))
    (mkF 120 [(0, (.ref (some r) yZ1 0 [])), (1, (.v (.int .i64 o))), (2, (.v (.int .i64 th))), (10, (.v (.int .i64 (k : Int))))] x [(some (.heap X))] ⟨0, []⟩) := fun hC x => by
   have hkl : (d.hs.take k).length = k := by simp; omega
   have := enter_put (A := d.hs.take k) (C := d.hs.drop k) (o := o) (th := th) (R := R) (K := awp X32.tt (callN Try.prog X32 0) (X32.md 32) 1 (X32.mk1 32) 0 (codeAt [1, 1, 1, 1, 1, 1] (bd Try.f32)) (Qr32 R)) h hn (by simp) ⟨0, []⟩ x (fun X' hg => by
    rw [hRdef, hent]
    refine ⟨rfl, ?_⟩
    have hi : insR d.l ⟨o, th, 1, d.turn, []⟩ = (d.hs.take k).map (·.1) ++ ⟨o, th, 1, d.turn, []⟩ :: (d.hs.drop k).map (·.1) := by
     have : d.l = (d.hs.take k).map (·.1) ++ (d.hs.drop k).map (·.1) := by
      unfold RD.l; rw [← List.map_append, List.take_append_drop]
     rw [this]
     refine insR_at (fun y hy => ?_) fun y C' hc => ?_
     ·obtain ⟨z, hz, rfl⟩ := List.mem_map.1 hy
      exact hall z hz
     ·cases hd : d.hs.drop k with
      | nil => rw [hd] at hc; cases hc
      | cons z C2 => rw [hd] at hc; cases hc; exact hC z C2 hd
    show RGoes X r d X' (insR d.l _) _
    rw [hi]; exact hg)
   rw [hkl] at this
   exact this
  refine H32_0 r o th k X ⟨0, []⟩ ⟨_, h.box.el, fun e6 => ?_, fun e6 => ?_⟩
  ·have e6 : (k : Int) < ((slN d.L : Nat) : Int) := of_decide_eq_true e6
   have hk' : k < d.hs.length := by omega
   obtain ⟨u, h1, h2, h3, h4⟩ := h.at' hk'
   refine ⟨_, h.box.el, u, h1, h2, h3, _, h4, fun e7 => ?_, fun e7 => ?_⟩
   ·have e7 : (d.hs[k]).1.o < o := of_decide_eq_true e7
    rw [wrap_succ (by omega)]
    refine Again.mk (k + 1) rfl ⟨hk', fun y hy => ?_⟩ (by omega)
    rw [List.take_succ_eq_append_getElem hk', List.mem_append, List.mem_singleton] at hy
    rcases hy with hy | rfl
    ·exact hall y hy
    ·exact e7
   ·have e7 : ¬ (d.hs[k]).1.o < o := of_decide_eq_false e7
    refine to_exit (to_next (awp_live (n := 120) (hp := [(some (.heap X))]) (T := ⟨0, []⟩) (l := [(0, (.ref (some r) yZ1 0 [])), (1, (.v (.int .i64 o))), (2, (.v (.int .i64 th))), (10, (.v (.int .i64 (k : Int))))]) (by kernel_rfl) fun x2 => out (fun y C' hc => ?_) x2))
    rw [← List.getElem_cons_drop hk'] at hc
    cases hc
    exact e7
  ·have e6 : ¬ (k : Int) < ((slN d.L : Nat) : Int) := of_decide_eq_false e6
   refine to_exit (to_next (awp_live (n := 120) (hp := [(some (.heap X))]) (T := ⟨0, []⟩) (l := [(0, (.ref (some r) yZ1 0 [])), (1, (.v (.int .i64 o))), (2, (.v (.int .i64 th))), (10, (.v (.int .i64 (k : Int))))]) (by kernel_rfl) fun x2 => out (fun y C' hc => ?_) x2))
   rw [List.drop_of_length_le (by omega)] at hc
   cases hc
 ·-- somebody holds it
  have e5 : ¬ p < 0 := of_decide_eq_false e5
  rcases idxR_cases d.hs o with ⟨e6, _⟩ | ⟨A, e, C, hs, e6, e7, e8⟩
  ·have e6 : idxR d.l o = -1 := e6
   omega
  have e8 : idxR d.l o = (A.length : Int) := e8
  obtain rfl : p = (A.length : Int) := by rw [← hp, e8]
  obtain ⟨u, h1, h2, h3⟩ := h.at hs
  have hf := findR_split hs e6 e7
  have hem : e.1 ∈ d.l := List.mem_map.2 ⟨e, by rw [hs]; simp, rfl⟩
  have hel : X.el cRM u.h (u.off + ((A.length : Int)).toNat) = some (e.1.v e.2) := by rw [Int.toNat_natCast]; exact h3
  refine to_next ?_
  refine awp_live (n := 120) (hp := [(some (.heap X))]) (T := ⟨0, []⟩) (l := [(0, (.ref (some r) yZ1 0 [])), (2, (.v (.int .i64 th))), (9, (.v (.int .i64 (A.length : Int))))]) (by kernel_rfl) fun x1 => ?_
  refine G32_4 x1 r th A.length X ⟨0, []⟩ ⟨_, h.box.el, u, h1, by omega, by omega, _, hel, fun e9 => ?_, fun e9 => ?_⟩
  ·have e9 : e.1.w = th := by simpa [RM.v] using e9
   have hent : enterS d.l d.turn o th = ((true, 0), updR d.l ⟨e.1.o, e.1.w, IntKind.wrap .i64 (e.1.n + 1), e.1.s, e.1.q⟩, d.turn) := by
    unfold enterS; rw [if_neg hno, if_neg hw, hf]; dsimp only; rw [if_pos e9]
   refine ⟨_, h.box.el, u, h1, by omega, by omega, _, hel, u, h1, by omega, by omega, _, hel, fun X10 e10 => ?_⟩
   obtain ⟨d', p1, p2, p3, p4, p5, p6⟩ := h.upd hs hnd h1 ⟨e.1.o, e.1.w, IntKind.wrap .i64 (e.1.n + 1), e.1.s, e.1.q⟩ rfl rfl
   have e10 : X10 = X.setEl cRM u.h (u.off + A.length) (RM.v ⟨e.1.o, e.1.w, IntKind.wrap .i64 (e.1.n + 1), e.1.s, e.1.q⟩ e.2) := e10.trans (by rw [Int.toNat_natCast]; rfl)
   rw [← e10] at p1 p2
   have : R (true, 0) X10 := by
    rw [hRdef, hent]
    exact ⟨rfl, d', p1, p2, p3, p4⟩
   exact Eq.mp (by kernel_rfl) this
  ·have e9 : e.1.w ≠ th := by simpa [RM.v] using e9
   have hent : enterS d.l d.turn o th = ((false, 0), updR d.l ⟨e.1.o, e.1.w, e.1.n, e.1.s, e.1.q ++ [th]⟩, d.turn) := by
    unfold enterS; rw [if_neg hno, if_neg hw, hf]; dsimp only; rw [if_neg e9]
   have hwe := h.ws e (by rw [hs]; simp)
   have hwl := hwe.len
   have hql := hq _ hem
   have hdl : d.l = A.map (·.1) ++ e.1 :: C.map (·.1) := by unfold RD.l; rw [hs]; simp
   have fin : ∀ {X1 : XH} {s1 : Option SlH}, XApp X cN (0 : Int) e.1.q [th] e.2 X1 s1 → X1.el cRT r 0 = some (d.L, d.turn) ∧ X1.el cRM u.h (u.off + ((A.length : Int)).toNat) = some (e.1.v e.2) ∧ ∀ X2 : XH, X2 = X1.setEl cRM u.h (u.off + ((A.length : Int)).toNat) (e.1.o, e.1.w, e.1.n, e.1.s, s1) → R (false, 0) X2 := fun {X1 s1} xa => by
    obtain ⟨t1, t2⟩ := xa.spec hwe
    have he : e ∈ d.hs := by rw [hs]; simp
    obtain ⟨n2a, n2b⟩ := h.n2 e he
    have huL : u.h ∈ hl d.L := by rw [h1]; simp [hl]
    have hat : X1.at u.h = X.at u.h := t2.keep _ (h.arr.lt _ huL) fun q => n2b _ q huL
    refine ⟨(h.box.keep (t2.keep r h.box.lt n2a)).el, ?_, fun X2 e2 => ?_⟩
    ·rw [← hel]
     unfold XH.el XH.arr
     rw [hat]
    ·obtain ⟨q1, q2⟩ := h.put hs h1 ⟨e.1.o, e.1.w, e.1.n, e.1.s, e.1.q ++ [th]⟩ t1 t2
     have e2 : X2 = X1.setEl cRM u.h (u.off + A.length) (RM.v ⟨e.1.o, e.1.w, e.1.n, e.1.s, e.1.q ++ [th]⟩ s1) := e2.trans (by rw [Int.toNat_natCast]; rfl)
     rw [← e2] at q1 q2
     rw [hRdef, hent]
     refine ⟨rfl, _, q1, q2, ?_, rfl⟩
     rw [hdl] at hnd
     show _ = updR d.l _
     rw [hdl, updR_at (m' := ⟨e.1.o, e.1.w, e.1.n, e.1.s, e.1.q ++ [th]⟩) hnd rfl]
     simp [RD.l]
   have rr : ((slN e.2) + ([th] : List Int).length) * 8 ≤ room := by
    rw [hwl]; show (_ + 1) * 8 ≤ 140737488355328; omega
   refine ⟨?_, ?_, trivial⟩
   ·refine ⟨_, h.box.el, _, h.box.el, u, h1, by omega, by omega, _, hel, e.1.q, [th], hwe.view, rfl, rr, fun X1 s1 xa => ?_⟩
    obtain ⟨f1, f2, f3⟩ := fin xa
    exact ⟨u, h1, by omega, by omega, _, f2, fun X2 e2 => Eq.mp (by kernel_rfl) (f3 X2 e2)⟩
   ·refine ⟨_, h.box.el, u, h1, by omega, by omega, _, hel, e.1.q, [th], hwe.view, rfl, rr, fun X1 s1 xa => ?_⟩
    obtain ⟨f1, f2, f3⟩ := fin xa
    exact ⟨_, f1, u, h1, by omega, by omega, _, f2, fun X2 e2 => Eq.mp (by kernel_rfl) (f3 X2 e2)⟩

end Go.Proofs.Ytefpoodhdfggdaa.AB

set_option maxRecDepth 100000
set_option maxHeartbeats 2000000
namespace Go.Proofs.Ytefpoodhdfggdaa.AB
open Go
noncomputable def X37 : Cx := ⟨tt, [], [(64, [(.pure (.int .i64))]), (66, [(.pure (.int .i64))]), (72, [(.pure (.slice (.int .i64)))])], [(37, [(4, 0, .x (.sl (.pure (.int .i64)))), (9, 12, .x (.pure (.int .i64))), (9, 13, .x (.pure (.int .i64))), (12, 2, .rd), (16, 6, .rd), (16, 7, .xc)])], [(37, [(0, mkM 93 0 [0, 1, 5], 0), (2, mkM 93 0 [0, 1, 5, 6, 7], 0), (4, mkM 93 0 [0, 8, 9, 10], 0)])], []⟩
theorem FN37 : fnsB Try.prog X37.fns := (show True from trivial)
def M37_0 : List Bool × Nat := (mkM 93 0 [0, 1, 5], 1)
def S37_0 (t0 : Nat) (thread1 : Int) (i5 : Int) (hq0 : XH) (T : Toks) : St :=
  mkS 93 [(0, (.ref (some t0) yZ1 0 [])), (1, (.v (.int .i64 thread1))), (5, (.v (.int .i64 i5)))] [(some (.heap hq0))] T
noncomputable def B37_0 : (Exit → St → Prop) → St → Prop := (awp X37.tt (callN Try.prog X37 0) (X37.md 37) 1 (X37.mk1 37) 0 (codeAt [1, 0, 1, 0, 0] (bd Try.f37)))
def M37_2 : List Bool × Nat := (mkM 93 0 [0, 1, 5, 6, 7], 1)
def S37_2 (t0 : Nat) (thread1 : Int) (i5 : Int) (left6 : Option SlH) (k7 : Int) (hq0 : XH) (T : Toks) : St :=
  mkS 93 [(0, (.ref (some t0) yZ1 0 [])), (1, (.v (.int .i64 thread1))), (5, (.v (.int .i64 i5))), (6, (.sl (.pure (.int .i64)) left6)), (7, (.v (.int .i64 k7)))] [(some (.heap hq0))] T
noncomputable def B37_2 : (Exit → St → Prop) → St → Prop := (awp X37.tt (callN Try.prog X37 0) (X37.md 37) 1 (X37.mk1 37) 2 (codeAt [1, 0, 1, 0, 0, 1, 0, 0, 1, 0, 1, 0, 0] (bd Try.f37)))
def M37_4 : List Bool × Nat := (mkM 93 0 [0, 8, 9, 10], 1)
def S37_4 (t0 : Nat) (out8 : List Int) (out8k : Tok) (all9 : List Int) (k10 : Int) (hq0 : XH) (T : Toks) : St :=
  mkS 93 [(0, (.ref (some t0) yZ1 0 [])), (8, (.v (.list (.int .i64) out8 out8k))), (9, (.v (.list (.int .i64) all9 .no))), (10, (.v (.int .i64 k10)))] [(some (.heap hq0))] T
noncomputable def B37_4 : (Exit → St → Prop) → St → Prop := (awp X37.tt (callN Try.prog X37 0) (X37.md 37) 1 (X37.mk1 37) 4 (codeAt [1, 1, 1, 1, 0, 1, 0, 0] (bd Try.f37)))
noncomputable def K37_0 (R : ((List Int)) → XH → Prop) : Exit → St → Prop := seqK ((awp X37.tt (callN Try.prog X37 0) (X37.md 37) 1 (X37.mk1 37) 0 (codeAt [1, 1] (bd Try.f37))) (retK tt Try.f37.results.toList fun x s' => xfin [(.pure (.slice (.int .i64)))] R x ⟨[], s'.hp, s'.T⟩)) (retK tt Try.f37.results.toList fun x s' => xfin [(.pure (.slice (.int .i64)))] R x ⟨[], s'.hp, s'.T⟩)
noncomputable def Q37_0 (R : ((List Int)) → XH → Prop) : Exit → St → Prop := (blockK 0 (K37_0 R))
noncomputable def K37_1 (R : ((List Int)) → XH → Prop) : Exit → St → Prop := seqK ((awp X37.tt (callN Try.prog X37 0) (X37.md 37) 1 (X37.mk1 37) 0 (codeAt [1, 1, 1, 1, 1] (bd Try.f37))) (retK tt Try.f37.results.toList fun x s' => xfin [(.pure (.slice (.int .i64)))] R x ⟨[], s'.hp, s'.T⟩)) (retK tt Try.f37.results.toList fun x s' => xfin [(.pure (.slice (.int .i64)))] R x ⟨[], s'.hp, s'.T⟩)
noncomputable def Q37_4 (R : ((List Int)) → XH → Prop) : Exit → St → Prop := (blockK 4 (K37_1 R))
noncomputable def K37_2 (R : ((List Int)) → XH → Prop) (k0 : St → Prop) : Exit → St → Prop := seqK ((awp X37.tt (callN Try.prog X37 0) (X37.md 37) 1 (X37.mk1 37) 0 (codeAt [1, 0, 1, 0, 0, 1, 1] (bd Try.f37))) (loopQ M37_0 k0 (blockK 0 (K37_0 R)))) (loopQ M37_0 k0 (blockK 0 (K37_0 R)))
noncomputable def K37_3 (R : ((List Int)) → XH → Prop) (k0 : St → Prop) : Exit → St → Prop := seqK ((awp X37.tt (callN Try.prog X37 0) (X37.md 37) 1 (X37.mk1 37) 1 (codeAt [1, 0, 1, 0, 0, 1, 0, 0, 1, 1] (bd Try.f37))) (blockK 1 (K37_2 R k0))) (blockK 1 (K37_2 R k0))
noncomputable def Q37_2 (R : ((List Int)) → XH → Prop) (k0 : St → Prop) : Exit → St → Prop := (blockK 2 (K37_3 R k0))
theorem E37 (X : XH) (t0 : Nat) (thread1 : Int) {R : ((List Int)) → XH → Prop} (h : (Loops B37_0 M37_0 (Q37_0 R)
  (S37_0 t0 thread1 (0 : Int) X ⟨0, []⟩))) :
  fnK X37.tt (callN Try.prog X37 0) (X37.md 37) (X37.mk1 37) Try.f37 [(.ref (some t0) yZ1 0 []), (.v (.int .i64 thread1))] ⟨[], [some (.heap X)], ⟨0, []⟩⟩ (xfin [(.pure (.slice (.int .i64)))] R) := Eq.mp (by kernel_rfl) h
theorem L37_0 (t0 : Nat) (thread1 : Int) (i5 : Int) (hq0 : XH) (T : Toks) {R : ((List Int)) → XH → Prop} {k0 : St → Prop}
 (h : (∃ (a1 : ((Option SlH) × Int)), XH.el hq0 yZ1 t0 0 = some a1 ∧ (((decide (i5 < (((slN a1.1) : Nat) : Int))) = true → (Loops B37_2 M37_2 (Q37_2 R k0)
  (S37_2 t0 thread1 i5 none (0 : Int) hq0 T))) ∧
 ((decide (i5 < (((slN a1.1) : Nat) : Int))) = false → (∃ (p2 : (List Int)), RC Try.prog 72 [(.pure (.slice (.int .i64)))] [(.ref (some t0) yZ1 0 []), (.v (.int .i64 thread1))] hq0 p2 ∧ (Loops B37_4 M37_4 (Q37_4 R)
  (S37_4 t0 ([] : List Int) .exact p2 (0 : Int) hq0 T))))))) :
  B37_0 (loopQ M37_0 k0 (Q37_0 R)) (S37_0 t0 thread1 i5 hq0 T) := Eq.mp (by kernel_rfl) h
theorem L37_2 (t0 : Nat) (thread1 : Int) (i5 : Int) (left6 : Option SlH) (k7 : Int) (hq0 : XH) (T : Toks) {R : ((List Int)) → XH → Prop} {k0 : St → Prop} {k2 : St → Prop}
 (h : (∃ (a3 : ((Option SlH) × Int)), XH.el hq0 yZ1 t0 0 = some a3 ∧ (∃ (u4 : SlH), a3.1 = some u4 ∧ 0 ≤ i5 ∧ i5 < ((u4.len : Nat) : Int) ∧ (∃ (a5 : (Int × (Int × (Int × (Int × (Option SlH)))))), XH.el hq0 yZ0 u4.h ((u4.off + (i5).toNat)) = some a5 ∧ (((decide (k7 < (((slN a5.2.2.2.2) : Nat) : Int))) = true → (∃ (a6 : ((Option SlH) × Int)), XH.el hq0 yZ1 t0 0 = some a6 ∧ (∃ (u7 : SlH), a6.1 = some u7 ∧ 0 ≤ i5 ∧ i5 < ((u7.len : Nat) : Int) ∧ (∃ (a8 : (Int × (Int × (Int × (Int × (Option SlH)))))), XH.el hq0 yZ0 u7.h ((u7.off + (i5).toNat)) = some a8 ∧ (∃ (u9 : SlH), a8.2.2.2.2 = some u9 ∧ 0 ≤ k7 ∧ k7 < ((u9.len : Nat) : Int) ∧ (∃ (a10 : Int), XH.el hq0 (.pure (.int .i64)) u9.h ((u9.off + (k7).toNat)) = some a10 ∧ (((a10 != thread1) = true → (∃ (a11 : ((Option SlH) × Int)), XH.el hq0 yZ1 t0 0 = some a11 ∧ (∃ (u12 : SlH), a11.1 = some u12 ∧ 0 ≤ i5 ∧ i5 < ((u12.len : Nat) : Int) ∧ (∃ (a13 : (Int × (Int × (Int × (Int × (Option SlH)))))), XH.el hq0 yZ0 u12.h ((u12.off + (i5).toNat)) = some a13 ∧ (∃ (u14 : SlH), a13.2.2.2.2 = some u14 ∧ 0 ≤ k7 ∧ k7 < ((u14.len : Nat) : Int) ∧ (∃ (a15 : Int), XH.el hq0 (.pure (.int .i64)) u14.h ((u14.off + (k7).toNat)) = some a15 ∧ (∀ (X16 : XH), X16 = (XH.add hq0 (.arr (.pure (.int .i64)) ([a15] : List Int))) → (∃ (l17 l18 : List Int), XH.view X16 (.pure (.int .i64)) left6 = some l17 ∧ (srcX X16 (.pure (.int .i64)) (.sl (.pure (.int .i64)) (some ⟨hq0.n, 0, 1, 1⟩))) = some l18 ∧ ((slN left6) + (l18).length) * 8 ≤ room ∧ ∀ (X19 : XH) (s20 : Option SlH), XApp X16 (.pure (.int .i64)) (0 : Int) l17 l18 left6 X19 s20 → k2 (S37_2 t0 thread1 i5 s20 ((IntKind.wrap .i64 (k7 + (1 : Int)))) X19 T))))))))) ∧
 ((a10 != thread1) = false → k2 (S37_2 t0 thread1 i5 left6 ((IntKind.wrap .i64 (k7 + (1 : Int)))) hq0 T))))))))) ∧
 ((decide (k7 < (((slN a5.2.2.2.2) : Nat) : Int))) = false → (∃ (a21 : ((Option SlH) × Int)), XH.el hq0 yZ1 t0 0 = some a21 ∧ (∃ (u22 : SlH), a21.1 = some u22 ∧ 0 ≤ i5 ∧ i5 < ((u22.len : Nat) : Int) ∧ (∃ (a23 : (Int × (Int × (Int × (Int × (Option SlH)))))), XH.el hq0 yZ0 u22.h ((u22.off + (i5).toNat)) = some a23 ∧ (∀ (X24 : XH), X24 = (XH.setEl hq0 yZ0 u22.h ((u22.off + (i5).toNat)) ((a23.1, (a23.2.1, (a23.2.2.1, (a23.2.2.2.1, left6)))))) → k0 (S37_0 t0 thread1 ((IntKind.wrap .i64 (i5 + (1 : Int)))) X24 T))))))))))) :
  B37_2 (loopQ M37_2 k2 (Q37_2 R k0)) (S37_2 t0 thread1 i5 left6 k7 hq0 T) := Eq.mp (by kernel_rfl) h
theorem L37_4 (t0 : Nat) (out8 : List Int) (out8k : Tok) (all9 : List Int) (k10 : Int) (hq0 : XH) (T : Toks) {R : ((List Int)) → XH → Prop} {k4 : St → Prop}
 (h : (((decide (k10 < ((all9).length : Int))) = true → (0 ≤ k10 ∧ k10 < ((all9).length : Int) ∧ (∃ (p25 : Int), RC Try.prog 64 [(.pure (.int .i64))] [(.ref (some t0) yZ1 0 []), (.v (.int .i64 ((all9.getD (k10).toNat 0))))] hq0 p25 ∧ (XC Try.prog 66 [(.pure (.int .i64))] [(.ref (some t0) yZ1 0 []), (.v (.int .i64 p25))] hq0 (fun (p26 : Int) (X27 : XH) => (((decide (p26 > (0 : Int))) = true → (Tok.own out8k T.l ∧ ((out8).length + (([p26] : List Int)).length) * 8 ≤ room ∧ k4 (S37_4 t0 ((out8 ++ ([p26] : List Int))) (.tk T.n) all9 ((IntKind.wrap .i64 (k10 + (1 : Int)))) X27 ⟨(T.n + 1), (T.n :: Tok.drop out8k T.l)⟩))) ∧
 ((decide (p26 > (0 : Int))) = false → k4 (S37_4 t0 out8 out8k all9 ((IntKind.wrap .i64 (k10 + (1 : Int)))) X27 T)))))))) ∧
 ((decide (k10 < ((all9).length : Int))) = false → R out8 hq0))) :
  B37_4 (loopQ M37_4 k4 (Q37_4 R)) (S37_4 t0 out8 out8k all9 k10 hq0 T) := Eq.mp (by kernel_rfl) h
end Go.Proofs.Ytefpoodhdfggdaa.AB

namespace Go.Proofs.Ytefpoodhdfggdaa.AB
open Go

variable {X X' : XH} {r : Nat} {d : RD} {A C : List RE} {e : RE} {o th : Int}

def strip1 (th : Int) (m : RM) : RM := ⟨m.o, m.w, m.n, m.s, m.q.filter fun z => z != th⟩
def stripR (l : List RM) (th : Int) : List RM := l.map (strip1 th)

theorem stripR_keys (l : List RM) : (stripR l th).map (·.o) = l.map (·.o) := by
 unfold stripR; rw [List.map_map]; rfl

def leaveF : List Int → List Int → List RM → Int → List Int × List RM × Int
 | [], out, l, t => (out, l, t)
 | o :: rs, out, l, t => match findR l o with
  | some m => leaveF rs (if (nextS l m t).1 > 0 then out ++ [(nextS l m t).1] else out) (nextS l m t).2.1 (nextS l m t).2.2
  | none => (out, l, t)

def leaveS (l : List RM) (turn th : Int) : List Int × List RM × Int := leaveF (holdsR (stripR l th) th turn.toNat) [] (stripR l th) turn

theorem findR_some {l : List RM} {m : RM} (h : findR l o = some m) : m ∈ l ∧ m.o = o := by
 unfold findR at h
 exact ⟨List.mem_of_find?_eq_some h, by simpa using List.find?_some h⟩

theorem findR_mem {l : List RM} (h : ∃ m ∈ l, m.o = o) : ∃ m, findR l o = some m := by
 cases hf : findR l o with
 | some m => exact ⟨m, rfl⟩
 | none =>
  obtain ⟨m, h1, h2⟩ := h
  have := List.find?_eq_none.1 hf m h1
  simp [h2] at this

theorem nextS_keys {l : List RM} {m : RM} {t : Int} : ∀ y ∈ (nextS l m t).2.1.map (·.o), y ∈ l.map (·.o) := by
 intro y hy
 unfold nextS at hy
 cases hq : m.q with
 | nil =>
  rw [hq] at hy
  obtain ⟨z, hz, rfl⟩ := List.mem_map.1 hy
  exact List.mem_map.2 ⟨z, (List.mem_filter.1 hz).1, rfl⟩
 | cons x q =>
  rw [hq] at hy
  simp only at hy
  rw [updR_keys] at hy
  exact hy

theorem nextS_nodup {l : List RM} {m : RM} {t : Int} (h : (l.map (·.o)).Nodup) : ((nextS l m t).2.1.map (·.o)).Nodup := by
 unfold nextS
 cases hq : m.q with
 | nil => exact h.sublist (List.filter_sublist.map _)
 | cons x q =>
  simp only
  rw [updR_keys]
  exact h

theorem nextS_len {l : List RM} {m : RM} {t : Int} : (nextS l m t).2.1.length ≤ l.length := by
 unfold nextS
 cases hq : m.q with
 | nil => exact List.length_filter_le _ _
 | cons x q => simp [updR]

theorem nextS_q {l : List RM} {m : RM} {t : Int} {N : Nat} (hm : m ∈ l) (h : ∀ y ∈ l, y.q.length ≤ N) : ∀ y ∈ (nextS l m t).2.1, y.q.length ≤ N := by
 intro y hy
 unfold nextS at hy
 cases hq : m.q with
 | nil =>
  rw [hq] at hy
  exact h y (List.mem_filter.1 hy).1
 | cons x q =>
  rw [hq] at hy
  simp only [updR, List.mem_map] at hy
  obtain ⟨z, hz, rfl⟩ := hy
  split
  ·have := h m hm
   rw [hq] at this
   simp at this ⊢
   omega
  ·exact h z hz

theorem nextS_other {l : List RM} {m : RM} {t : Int} (hne : o ≠ m.o) (h : ∃ y ∈ l, y.o = o) : ∃ y ∈ (nextS l m t).2.1, y.o = o := by
 obtain ⟨y, h1, h2⟩ := h
 unfold nextS
 cases hq : m.q with
 | nil => exact ⟨y, List.mem_filter.2 ⟨h1, by simpa using fun e => hne (h2.symm.trans e)⟩, h2⟩
 | cons x q =>
  refine ⟨y, List.mem_map.2 ⟨y, h1, if_neg fun e => hne (h2.symm.trans e)⟩, h2⟩

theorem c37 (h : RRep X r d) (hn : d.hs.length ≤ 1000) (hq : ∀ m ∈ d.l, m.q.length ≤ 1000) (hnd : (d.l.map (·.o)).Nodup) (n : Nat) (ht : d.turn = (n : Int)) (hn2 : n ≤ 1000) (hho : (holdsR (stripR d.l th) th n).Nodup) :
  XC Try.prog 37 [.pure (.slice (.int .i64))] [.ref (some r) cRT 0 [], .v (.int .i64 th)] X fun p X' => p = (leaveS d.l d.turn th).1 ∧ RGoes X r d X' (leaveS d.l d.turn th).2.1 (leaveS d.l d.turn th).2.2 := by
 have hdl : d.l.length = d.hs.length := by unfold RD.l; simp
 refine xcOf (X := X37) rfl FN37 (by kernel_rfl) (by decide) (E37 X r th ?_)
 refine Loops.intro (fun q : Nat × XH => S37_0 r th (q.1 : Int) q.2 ⟨0, []⟩) (fun q => q.1 ≤ d.hs.length ∧ ∃ d1, RRep q.2 r d1 ∧ Mv X (d.ks r) q.2 (d1.ks r) ∧ d1.l = stripR (d.l.take q.1) th ++ d.l.drop q.1 ∧ d1.turn = d.turn) (fun q => d.hs.length - q.1) (0, X) rfl
  ⟨Nat.zero_le _, d, h, .refl _ _, by simp [stripR], rfl⟩ ?_
 rintro ⟨i, Y⟩ ⟨hi, d1, r1, m1, l1, t1⟩
 have hi : i ≤ d.hs.length := hi
 have r1 : RRep Y r d1 := r1
 have hlen1 : d1.hs.length = d.hs.length := by
  have : d1.l.length = d.l.length := by rw [l1]; simp [stripR]; omega
  unfold RD.l at this
  simpa using this
 have hs1 := r1.len
 refine L37_0 r th i Y ⟨0, []⟩ ⟨_, r1.box.el, fun e => ?_, fun e => ?_⟩
 ·have e : (i : Int) < ((slN d1.L : Nat) : Int) := of_decide_eq_true e
  have hi' : i < d1.hs.length := by omega
  have hil : i < d.l.length := by omega
  -- the element
  have hsp : d1.hs = d1.hs.take i ++ d1.hs[i] :: d1.hs.drop (i + 1) := by simp
  have hAl : (d1.hs.take i).length = i := by simp; omega
  have hli : (d1.hs[i]).1 = d.l[i] := by
   have h1 : d1.l[i]? = some (d1.hs[i]).1 := by unfold RD.l; rw [List.getElem?_map, List.getElem?_eq_getElem hi']; rfl
   rw [l1, List.getElem?_append_right (by simp [stripR]; omega)] at h1
   have e0 : i - (stripR (d.l.take i) th).length = 0 := by simp [stripR]; omega
   rw [e0, List.getElem?_drop, Nat.add_zero, List.getElem?_eq_getElem hil] at h1
   exact (Option.some.inj h1).symm
  obtain ⟨u, h1, h2, h3, h4⟩ := r1.at' hi'
  have hw := r1.ws _ (List.getElem_mem hi')
  have hwl := hw.len
  have hql : (d1.hs[i]).1.q.length ≤ 1000 := by rw [hli]; exact hq _ (List.getElem_mem hil)
  refine Loops.intro (fun q : Nat × Option SlH × XH => S37_2 r th (i : Int) q.2.1 (q.1 : Int) q.2.2 ⟨0, []⟩) (fun q => q.1 ≤ (d1.hs[i]).1.q.length ∧ XN Y q.2.2 ∧ (∀ k ∈ hl q.2.1, Y.n ≤ k) ∧ SlAt q.2.2 cN q.2.1 (((d1.hs[i]).1.q.take q.1).filter fun z => z != th)) (fun q => (d1.hs[i]).1.q.length - q.1) (0, none, Y) rfl
   ⟨Nat.zero_le _, .refl _, fun k hk => (by cases hk), rfl⟩ ?_
  rintro ⟨k, left, Z⟩ ⟨hk, xn, hnew, hleft⟩
  have hk : k ≤ (d1.hs[i]).1.q.length := hk
  have xn : XN Y Z := xn
  have hleft : SlAt Z cN left (((d1.hs[i]).1.q.take k).filter fun z => z != th) := hleft
  have r2 : RRep Z r d1 := xn.rep r1
  obtain ⟨u', h1', h2', h3', h4'⟩ := r2.at' hi'
  rw [h1] at h1'; cases h1'
  have hw2 := r2.ws _ (List.getElem_mem hi')
  refine L37_2 r th i left k Z ⟨0, []⟩ ⟨_, r2.box.el, u, h1, h2, h3, _, h4', fun e2 => ?_, fun e2 => ?_⟩
  ·have e2 : (k : Int) < ((slN (d1.hs[i]).2 : Nat) : Int) := of_decide_eq_true e2
   have hk' : k < (d1.hs[i]).1.q.length := by omega
   obtain ⟨s, hsl⟩ : ∃ s, (d1.hs[i]).2 = some s := by
    cases hc : (d1.hs[i]).2 with
    | none => rw [hc] at hwl; simp [slN] at hwl; omega
    | some s => exact ⟨s, rfl⟩
   have hw3 := hw2
   rw [hsl] at hw3 hwl
   have hsl2 : s.len = (d1.hs[i]).1.q.length := hwl
   have hel : Z.el cN s.h (s.off + ((k : Nat) : Int).toNat) = some ((d1.hs[i]).1.q[k]) := by rw [Int.toNat_natCast]; exact hw3.el hk'
   have hstep : ((d1.hs[i]).1.q.take (k + 1)).filter (fun z => z != th) = ((d1.hs[i]).1.q.take k).filter (fun z => z != th) ++ [(d1.hs[i]).1.q[k]].filter (fun z => z != th) := by
    rw [List.take_succ_eq_append_getElem hk', List.filter_append]
   refine ⟨_, r2.box.el, u, h1, h2, h3, _, h4', s, hsl, by omega, by omega, _, hel, fun e3 => ?_, fun e3 => ?_⟩
   ·have e3 : ((d1.hs[i]).1.q[k] != th) = true := e3
    refine ⟨_, r2.box.el, u, h1, h2, h3, _, h4', s, hsl, by omega, by omega, _, hel, fun X16 e16 => ?_⟩
    obtain ⟨bN, u16⟩ := one_row e16
    have t8 := hleft.keep (X' := X16) fun k hk => u16.keep k (hleft.lt k hk) (by simp)
    have hfl : (((d1.hs[i]).1.q.take k).filter fun z => z != th).length ≤ 1000 := by
     have := List.length_filter_le (fun z => z != th) ((d1.hs[i]).1.q.take k)
     simp only [List.length_take] at this
     omega
    refine ⟨_, _, t8.view, by rw [srcX_sl]; exact bN.view, by rw [t8.len]; exact Nat.le_trans (Nat.mul_le_mul_right 8 (Nat.add_le_add_right hfl 1)) (by show (1000 + 1) * 8 ≤ 140737488355328; omega), fun X19 s20 xa => ?_⟩
    obtain ⟨t9, u9⟩ := xa.spec t8
    rw [wrap_succ (by omega)]
    have x16 : XN Y X16 := xn.step u16 (fun k hk => by cases hk)
    refine Again.mk (k + 1, s20, X19) rfl ⟨hk', x16.step u9 hnew, fun j hj => (u9.own j hj).elim (hnew j) fun q => Nat.le_trans x16.n q, ?_⟩ (by show (d1.hs[i]).1.q.length - (k + 1) < (d1.hs[i]).1.q.length - k; omega)
    show SlAt X19 cN s20 _
    have e4 : [(d1.hs[i]).1.q[k]].filter (fun z => z != th) = [(d1.hs[i]).1.q[k]] := by simp [e3]
    rw [hstep, e4]
    exact t9
   ·have e3 : ((d1.hs[i]).1.q[k] != th) = false := e3
    rw [wrap_succ (by omega)]
    refine Again.mk (k + 1, left, Z) rfl ⟨hk', xn, hnew, ?_⟩ (by show (d1.hs[i]).1.q.length - (k + 1) < (d1.hs[i]).1.q.length - k; omega)
    show SlAt Z cN left _
    have e4 : [(d1.hs[i]).1.q[k]].filter (fun z => z != th) = [] := by simp [e3]
    rw [hstep, e4, List.append_nil]
    exact hleft
  ·have e2 : ¬ (k : Int) < ((slN (d1.hs[i]).2 : Nat) : Int) := of_decide_eq_false e2
   have hk' : k = (d1.hs[i]).1.q.length := by omega
   rw [hk', List.take_length] at hleft
   refine ⟨_, r2.box.el, u, h1, h2, h3, _, h4', fun X24 e24 => ?_⟩
   obtain ⟨p1, p2⟩ := r1.put hsp h1 (strip1 th (d1.hs[i]).1) (x1 := left) (X1 := Z) hleft ⟨xn.n, fun k hk _ => xn.keep k hk, fun k hk => .inr (hnew k hk)⟩
   have e24 : X24 = Z.setEl cRM u.h (u.off + (d1.hs.take i).length) ((strip1 th (d1.hs[i]).1).v left) := e24.trans (by rw [Int.toNat_natCast, hAl]; rfl)
   rw [← e24] at p1 p2
   rw [wrap_succ (by omega)]
   refine Again.mk (i + 1, X24) rfl ⟨by show i + 1 ≤ _; omega, _, p1, m1.trans p2, ?_, t1⟩ (by show d.hs.length - (i + 1) < d.hs.length - i; omega)
   show (d1.hs.take i ++ (strip1 th (d1.hs[i]).1, left) :: d1.hs.drop (i + 1)).map (·.1) = stripR (d.l.take (i + 1)) th ++ d.l.drop (i + 1)
   have ha : (d1.hs.take i).map (·.1) = stripR (d.l.take i) th := by
    have : (d1.l).take i = stripR (d.l.take i) th := by
     rw [l1, List.take_append_of_le_length (by simp [stripR]; omega), List.take_of_length_le (by simp [stripR]; omega)]
    rw [← this]; unfold RD.l; rw [List.map_take]
   have hc : (d1.hs.drop (i + 1)).map (·.1) = d.l.drop (i + 1) := by
    have : (d1.l).drop (i + 1) = d.l.drop (i + 1) := by
     rw [l1, List.drop_append, List.drop_of_length_le (by simp [stripR]; omega), List.nil_append, List.drop_drop]
     congr 1
     simp [stripR]; omega
    rw [← this]; unfold RD.l; rw [List.map_drop]
   rw [List.map_append, List.map_cons, ha, hc, hli, List.take_succ_eq_append_getElem hil]
   unfold stripR
   rw [List.map_append, List.append_assoc]
   rfl
 ·have e : ¬ (i : Int) < ((slN d1.L : Nat) : Int) := of_decide_eq_false e
  have hi' : i = d.hs.length := by omega
  have l1 : d1.l = stripR d.l th := by
   have l1 : d1.l = stripR (d.l.take i) th ++ d.l.drop i := l1
   rw [l1, hi', ← hdl, List.take_length, List.drop_length, List.append_nil]
  have hlv : leaveS d.l d.turn th = leaveF (holdsR (stripR d.l th) th n) [] (stripR d.l th) d.turn := by unfold leaveS; rw [ht, Int.toNat_natCast]
  obtain ⟨all, hall⟩ : ∃ all, all = holdsR (stripR d.l th) th n := ⟨_, rfl⟩
  refine ⟨_, c72 r1 (by omega) n (by rw [t1]; exact ht) hn2, ?_⟩
  rw [show holdsR d1.l th n = all by rw [hall, l1]]
  rw [← hall] at hho hlv
  have hallen : all.length ≤ 1000000 := by
   have h1 := holdsR_le (stripR d.l th) th n
   have h2 : (stripR d.l th).length = d.hs.length := by simp [stripR, hdl]
   rw [h2] at h1
   have h3 : n * d.hs.length ≤ 1000 * 1000 := Nat.mul_le_mul hn2 hn
   rw [hall]; omega
  have hin : ∀ o ∈ all, ∃ m ∈ d1.l, m.o = o := by
   intro o ho
   rw [hall] at ho
   unfold holdsR ofTurn at ho
   obtain ⟨t, _, ho⟩ := List.mem_flatMap.1 ho
   obtain ⟨m, hm, rfl⟩ := List.mem_map.1 ho
   rw [l1]
   exact ⟨m, (List.mem_filter.1 hm).1, rfl⟩
  refine Loops.intro (fun q : Nat × List Int × Tok × XH × Toks => S37_4 r q.2.1 q.2.2.1 all (q.1 : Int) q.2.2.2.1 q.2.2.2.2)
   (fun q => q.1 ≤ all.length ∧ q.2.2.1.fresh q.2.2.2.2 ∧ q.2.1.length ≤ q.1 ∧ ∃ d2, RRep q.2.2.2.1 r d2 ∧ Mv X (d.ks r) q.2.2.2.1 (d2.ks r) ∧ (d2.l.map (·.o)).Nodup ∧ d2.l.length ≤ 1000 ∧ (∀ m ∈ d2.l, m.q.length ≤ 1000) ∧ (∀ o ∈ all.drop q.1, ∃ m ∈ d2.l, m.o = o) ∧
    leaveF all [] (stripR d.l th) d.turn = leaveF (all.drop q.1) q.2.1 d2.l d2.turn) (fun q => all.length - q.1) (0, [], .exact, Y, ⟨0, []⟩) rfl
   ⟨Nat.zero_le _, trivial, Nat.le_refl _, d1, r1, m1, by rw [l1, stripR_keys]; exact hnd, by rw [l1]; simp [stripR, hdl]; omega, ?_, by rw [List.drop_zero]; exact hin, by rw [List.drop_zero, l1, t1]⟩ ?_
  ·intro m hm
   rw [l1] at hm
   obtain ⟨m0, hm0, rfl⟩ := List.mem_map.1 hm
   exact Nat.le_trans (List.length_filter_le _ _) (hq m0 hm0)
  rintro ⟨k, out, tk, Z, T⟩ ⟨hk, hfr, hol, d2, r2, m2, n2, ln2, q2, in2, eq2⟩
  have hk : k ≤ all.length := hk
  have r2 : RRep Z r d2 := r2
  have hol : out.length ≤ k := hol
  have in2 : ∀ o ∈ all.drop k, ∃ m ∈ d2.l, m.o = o := in2
  have eq2 : leaveF all [] (stripR d.l th) d.turn = leaveF (all.drop k) out d2.l d2.turn := eq2
  refine L37_4 r out tk all k Z T ⟨fun e => ?_, fun e => ?_⟩
  ·have e : (k : Int) < (all.length : Int) := of_decide_eq_true e
   have hk' : k < all.length := by omega
   have hd2 : d2.hs.length = d2.l.length := by unfold RD.l; simp
   rw [Int.toNat_natCast]
   have hget : all.getD k 0 = all[k] := by simp [List.getD, hk']
   rw [hget]
   have hdrop : all.drop k = all[k] :: all.drop (k + 1) := (List.getElem_cons_drop hk').symm
   obtain ⟨m, hm, hmo⟩ := in2 all[k] (by rw [hdrop]; exact List.mem_cons_self ..)
   refine ⟨by omega, by omega, _, c64 r2 (by omega), ?_⟩
   rcases idxR_cases d2.hs all[k] with ⟨e1, e2⟩ | ⟨A, e, C, hs, e1, e2, e3⟩
   ·obtain ⟨z, hz, rfl⟩ := List.mem_map.1 hm
    exact absurd hmo (e2 z hz)
   rw [show idxR d2.l all[k] = (A.length : Int) from e3]
   have hf := findR_split hs e1 e2
   have hem : e.1 ∈ d2.l := List.mem_map.2 ⟨e, by rw [hs]; simp, rfl⟩
   refine (c66S r2 hs (by omega) (by have := q2 e.1 hem; omega) n2).mono ?_
   rintro v X27 ⟨rfl, d3, r3, m3, l3, t3⟩
   have hnk : all[k] ∉ all.drop (k + 1) := by
    have := hho
    rw [← List.take_append_drop k all, hdrop, List.nodup_append, List.nodup_cons] at this
    exact this.2.1.1
   have inv : ∀ out' : List Int, out' = (if (nextS d2.l e.1 d2.turn).1 > 0 then out ++ [(nextS d2.l e.1 d2.turn).1] else out) →
     RRep X27 r d3 ∧ Mv X (d.ks r) X27 (d3.ks r) ∧ (d3.l.map (·.o)).Nodup ∧ d3.l.length ≤ 1000 ∧ (∀ m ∈ d3.l, m.q.length ≤ 1000) ∧ (∀ o ∈ all.drop (k + 1), ∃ m ∈ d3.l, m.o = o) ∧ leaveF all [] (stripR d.l th) d.turn = leaveF (all.drop (k + 1)) out' d3.l d3.turn := by
    intro out' ho'
    refine ⟨r3, m2.trans m3, by rw [l3]; exact nextS_nodup n2, by rw [l3]; exact Nat.le_trans nextS_len ln2, by rw [l3]; exact nextS_q hem q2, fun o ho => ?_, ?_⟩
    ·rw [l3]
     refine nextS_other ?_ (in2 o (by rw [hdrop]; exact List.mem_cons_of_mem _ ho))
     rw [e1]
     rintro rfl
     exact hnk ho
    ·rw [eq2, hdrop]
     show (match findR d2.l all[k] with
      | some m => leaveF (all.drop (k + 1)) (if (nextS d2.l m d2.turn).1 > 0 then out ++ [(nextS d2.l m d2.turn).1] else out) (nextS d2.l m d2.turn).2.1 (nextS d2.l m d2.turn).2.2
      | none => (out, d2.l, d2.turn)) = _
     rw [hf, l3, t3, ho']
   rw [wrap_succ (by omega)]
   refine ⟨fun e4 => ⟨hfr.own, by show (out.length + 1) * 8 ≤ 140737488355328; omega, ?_⟩, fun e4 => ?_⟩
   ·have e4 : (nextS d2.l e.1 d2.turn).1 > 0 := of_decide_eq_true e4
    exact Again.mk (k + 1, out ++ [(nextS d2.l e.1 d2.turn).1], .tk T.n, X27, ⟨T.n + 1, T.n :: Tok.drop tk T.l⟩) rfl ⟨hk', Tok.fresh_new _ _, by simp; omega, d3, inv _ (by rw [if_pos e4])⟩ (by show all.length - (k + 1) < all.length - k; omega)
   ·have e4 : ¬ (nextS d2.l e.1 d2.turn).1 > 0 := of_decide_eq_false e4
    exact Again.mk (k + 1, out, tk, X27, T) rfl ⟨hk', hfr, by show out.length ≤ k + 1; omega, d3, inv _ (by rw [if_neg e4])⟩ (by show all.length - (k + 1) < all.length - k; omega)
  ·have e : ¬ (k : Int) < (all.length : Int) := of_decide_eq_false e
   have hk' : k = all.length := by omega
   rw [hlv, eq2, hk', List.drop_length]
   exact ⟨rfl, d2, r2, m2, rfl, rfl⟩

end Go.Proofs.Ytefpoodhdfggdaa.AB

namespace Go.Proofs.Ytefpoodhdfggdaa.AB
open Go Go.Proofs Go.RowKit Go.Maps Go.Sort Go.Shelf

def keysL_ren : Ren :=
  {
  f := fun x =>
    match x with
    | 7 => 74
    | 10 => 89
    | n => n,
  t := fun x =>
    match x with
    | 23 => 89
    | 26 => 3
    | 3 => 92
    | 28 => 85
    | 0 => 0
    | 27 => 84
    | 33 => 48
    | 4 => 4
    | n => n,
  g := fun x =>
    x }

set_option maxRecDepth 100000 in
theorem keysL : SlLaysZI.n7 Try.prog keysL_ren :=
  { mixed := by kernel_rfl, f7 := Exists.intro "maps.Keys[map[int]*crucible/monitor.lock,int,*crucible/monitor.lock]" ⟨of_decide_eq_true (by kernel_rfl), Eq.trans Try.func74 (congrArg some (by kernel_rfl))⟩, f10 := Exists.intro "maps.Keys[map[int]*crucible/monitor.lock,int,*crucible/monitor.lock]$1" ⟨of_decide_eq_true (by kernel_rfl), Eq.trans Try.func89 (congrArg some (by kernel_rfl))⟩, t0 := Try.underlying0, a0 := Try.isAgg0, z0 := Try.sizeOf0, v0 := Try.zeroValue0, t4 := Try.underlying4, a4 := Try.isAgg4, z4 := Try.sizeOf4, v4 := Try.zeroValue4, t23 := Try.underlying89, a23 := Try.isAgg89, z23 := Try.sizeOf89, v23 := Try.zeroValue89, t26 := Try.underlying3, a26 := Try.isAgg3, z26 := Try.sizeOf3, v26 := Try.zeroValue3, t27 := Try.underlying84, a27 := Try.isAgg84, z27 := Try.sizeOf84, v27 := Try.zeroValue84, t28 := Try.underlying85, a28 := Try.isAgg85, z28 := Try.sizeOf85, v28 := Try.zeroValue85, t33 := Try.underlying48, a33 := Try.isAgg48, z33 := Try.sizeOf48, v33 := Try.zeroValue48 }

def sortedL_ren : Ren :=
  {
  f := fun x =>
    match x with
    | 6 => 50
    | 8 => 80
    | 9 => 81
    | 11 => 95
    | 13 => 75
    | 12 => 96
    | 23 => 90
    | 24 => 91
    | 14 => 106
    | 15 => 107
    | 16 => 108
    | 17 => 109
    | 18 => 110
    | 19 => 111
    | 20 => 112
    | 21 => 113
    | 22 => 114
    | 25 => 121
    | 26 => 116
    | 27 => 117
    | 28 => 122
    | 29 => 123
    | 30 => 124
    | 31 => 126
    | n => n,
  t := fun x =>
    match x with
    | 26 => 3
    | 28 => 85
    | 24 => 22
    | 0 => 0
    | 3 => 3
    | 37 => 108
    | 48 => 119
    | 50 => 121
    | 4 => 4
    | 40 => 129
    | 39 => 128
    | 45 => 34
    | 5 => 5
    | 9 => 9
    | 51 => 140
    | 55 => 144
    | 57 => 149
    | 58 => 32
    | 33 => 48
    | n => n,
  g := fun x =>
    x }

set_option maxRecDepth 100000 in
theorem sortedL : SlLaysZI.n6 Try.prog sortedL_ren :=
  { mixed := by kernel_rfl, f6 := Exists.intro "slices.Sorted[int]" ⟨of_decide_eq_true (by kernel_rfl), Eq.trans Try.func50 (congrArg some (by kernel_rfl))⟩, f8 := Exists.intro "slices.Collect[int]" ⟨of_decide_eq_true (by kernel_rfl), Eq.trans Try.func80 (congrArg some (by kernel_rfl))⟩, f11 := Exists.intro "slices.AppendSeq[[]int,int]" ⟨of_decide_eq_true (by kernel_rfl), Eq.trans Try.func95 (congrArg some (by kernel_rfl))⟩, t0 := Try.underlying0, a0 := Try.isAgg0, z0 := Try.sizeOf0, v0 := Try.zeroValue0, t24 := Try.underlying22, a24 := Try.isAgg22, z24 := Try.sizeOf22, v24 := Try.zeroValue22, t26 := Try.underlying3, a26 := Try.isAgg3, z26 := Try.sizeOf3, v26 := Try.zeroValue3, t28 := Try.underlying85, a28 := Try.isAgg85, z28 := Try.sizeOf85, v28 := Try.zeroValue85, i26 := Eq.refl (some (some (Value.int IntKind.i64 0), 1, 8)) }

def sortL_ren : Ren :=
  {
  f := fun x =>
    match x with
    | 5 => 81
    | 8 => 75
    | 7 => 96
    | 19 => 90
    | 20 => 91
    | 10 => 106
    | 11 => 107
    | 12 => 108
    | 13 => 109
    | 14 => 110
    | 15 => 111
    | 16 => 112
    | 17 => 113
    | 18 => 114
    | 30 => 121
    | 31 => 116
    | 32 => 117
    | 33 => 122
    | 34 => 123
    | 35 => 124
    | 40 => 126
    | n => n,
  t := fun x =>
    match x with
    | 23 => 22
    | 25 => 3
    | 3 => 3
    | 32 => 108
    | 22 => 22
    | 0 => 0
    | 44 => 119
    | 46 => 121
    | 4 => 4
    | 36 => 129
    | 35 => 128
    | 41 => 34
    | 5 => 5
    | 9 => 9
    | 53 => 140
    | 57 => 144
    | 63 => 149
    | 64 => 32
    | n => n,
  g := fun x =>
    x }

set_option maxRecDepth 100000 in
theorem sortL : SlLaysM.n5 Try.prog sortL_ren :=
  { mixed := by kernel_rfl, f5 := Exists.intro "slices.Sort[[]int,int]" ⟨of_decide_eq_true (by kernel_rfl), Eq.trans Try.func81 (congrArg some (by kernel_rfl))⟩, f7 := Exists.intro "slices.pdqsortOrdered[int]" ⟨of_decide_eq_true (by kernel_rfl), Eq.trans Try.func96 (congrArg some (by kernel_rfl))⟩, f8 := Eq.trans Try.func75 (congrArg some (by kernel_rfl)), f10 := Exists.intro "slices.insertionSortOrdered[int]" ⟨of_decide_eq_true (by kernel_rfl), Eq.trans Try.func106 (congrArg some (by kernel_rfl))⟩, f11 := Exists.intro "slices.heapSortOrdered[int]" ⟨of_decide_eq_true (by kernel_rfl), Eq.trans Try.func107 (congrArg some (by kernel_rfl))⟩, f12 := Exists.intro "slices.breakPatternsOrdered[int]" ⟨of_decide_eq_true (by kernel_rfl), Eq.trans Try.func108 (congrArg some (by kernel_rfl))⟩, f13 := Exists.intro "slices.choosePivotOrdered[int]" ⟨of_decide_eq_true (by kernel_rfl), Eq.trans Try.func109 (congrArg some (by kernel_rfl))⟩, f14 := Exists.intro "slices.reverseRangeOrdered[int]" ⟨of_decide_eq_true (by kernel_rfl), Eq.trans Try.func110 (congrArg some (by kernel_rfl))⟩, f15 := Exists.intro "slices.partialInsertionSortOrdered[int]" ⟨of_decide_eq_true (by kernel_rfl), Eq.trans Try.func111 (congrArg some (by kernel_rfl))⟩, f16 := Exists.intro "cmp.Less[int]" ⟨of_decide_eq_true (by kernel_rfl), Eq.trans Try.func112 (congrArg some (by kernel_rfl))⟩, f17 := Exists.intro "slices.partitionEqualOrdered[int]" ⟨of_decide_eq_true (by kernel_rfl), Eq.trans Try.func113 (congrArg some (by kernel_rfl))⟩, f18 := Exists.intro "slices.partitionOrdered[int]" ⟨of_decide_eq_true (by kernel_rfl), Eq.trans Try.func114 (congrArg some (by kernel_rfl))⟩, f19 := Eq.trans Try.func90 (congrArg some (by kernel_rfl)), f20 := Eq.trans Try.func91 (congrArg some (by kernel_rfl)), f30 := Exists.intro "slices.siftDownOrdered[int]" ⟨of_decide_eq_true (by kernel_rfl), Eq.trans Try.func121 (congrArg some (by kernel_rfl))⟩, f31 := Eq.trans Try.func116 (congrArg some (by kernel_rfl)), f32 := Eq.trans Try.func117 (congrArg some (by kernel_rfl)), f33 := Exists.intro "slices.medianAdjacentOrdered[int]" ⟨of_decide_eq_true (by kernel_rfl), Eq.trans Try.func122 (congrArg some (by kernel_rfl))⟩, f34 := Exists.intro "slices.medianOrdered[int]" ⟨of_decide_eq_true (by kernel_rfl), Eq.trans Try.func123 (congrArg some (by kernel_rfl))⟩, f35 := Exists.intro "cmp.isNaN[int]" ⟨of_decide_eq_true (by kernel_rfl), Eq.trans Try.func124 (congrArg some (by kernel_rfl))⟩, f40 := Exists.intro "slices.order2Ordered[int]" ⟨of_decide_eq_true (by kernel_rfl), Eq.trans Try.func126 (congrArg some (by kernel_rfl))⟩, t0 := Try.underlying0, a0 := Try.isAgg0, z0 := Try.sizeOf0, v0 := Try.zeroValue0, t3 := Try.underlying3, a3 := Try.isAgg3, z3 := Try.sizeOf3, v3 := Try.zeroValue3, t4 := Try.underlying4, a4 := Try.isAgg4, z4 := Try.sizeOf4, v4 := Try.zeroValue4, t5 := Try.underlying5, a5 := Try.isAgg5, z5 := Try.sizeOf5, v5 := Try.zeroValue5, t9 := Try.underlying9, a9 := Try.isAgg9, z9 := Try.sizeOf9, v9 := Try.zeroValue9, t22 := Try.underlying22, a22 := Try.isAgg22, z22 := Try.sizeOf22, v22 := Try.zeroValue22, t23 := Try.underlying22, a23 := Try.isAgg22, z23 := Try.sizeOf22, v23 := Try.zeroValue22, t25 := Try.underlying3, a25 := Try.isAgg3, z25 := Try.sizeOf3, v25 := Try.zeroValue3, t32 := Try.underlying108, a32 := Try.isAgg108, z32 := Try.sizeOf108, v32 := Try.zeroValue108, t35 := Try.underlying128, a35 := Try.isAgg128, z35 := Try.sizeOf128, v35 := Try.zeroValue128, t36 := Try.underlying129, a36 := Try.isAgg129, z36 := Try.sizeOf129, v36 := Try.zeroValue129, t41 := Try.underlying34, a41 := Try.isAgg34, z41 := Try.sizeOf34, v41 := Try.zeroValue34, t44 := Try.underlying119, a44 := Try.isAgg119, z44 := Try.sizeOf119, v44 := Try.zeroValue119, t46 := Try.underlying121, a46 := Try.isAgg121, z46 := Try.sizeOf121, v46 := Try.zeroValue121, t53 := Try.underlying140, a53 := Try.isAgg140, z53 := Try.sizeOf140, v53 := Try.zeroValue140, t57 := Try.underlying144, a57 := Try.isAgg144, z57 := Try.sizeOf144, v57 := Try.zeroValue144, t63 := Try.underlying149, a63 := Try.isAgg149, z63 := Try.sizeOf149, v63 := Try.zeroValue149, t64 := Try.underlying32, a64 := Try.isAgg32, z64 := Try.sizeOf32, v64 := Try.zeroValue32 }


theorem sortsL (m : Nat) : AnyZI.SortsIn Try.prog sortedL_ren Fence.wide m :=
  ⟨fun blk off cap ss W hH hblk hsz => callsIn_wide.2 (AnyM.slices_Sort_int sortL blk off cap ss W hH hblk hsz),
   fun p cap W => callsIn_wide.2 (AnyM.slices_Sort_int_none sortL p cap W)⟩

set_option maxHeartbeats 1000000 in
theorem held_calls {H : Type} (a b nn : Nat) (D0 : DataW H) (R : Value → Option (DataW H × List MemPlace)) (w : World) (hc : w.cell? ⟨a, 0, none⟩ = some (.map (some b))) (hown : w.ownsMap Try.prog 3 R b nn D0) (hmax : Maps.size D0 ≤ maxLen)
    (hbytes : Maps.size D0 * 8 ≤ 140737488355328) :
    Calls Try.prog 42 #[.pointer (some ⟨a, 0, none⟩)] w fun e w' => ∃ (v : Value) (ss : List Int), e = .returned v ∧ ss.Perm (intKeys D0) ∧
      w'.ownsRow w.heap.size 3 1 v ss.length ((ss.mergeSort (fun x y => decide (x ≤ y))).map encZ) ∧ Below w.heap.size w w' := by
  refine (callsIn_wide (n := 6)).1 ?_
  have hbl := hown.lt
  have hseq : SeqGives Fence.wide 2 Try.prog 89 #[.pointer (some ⟨w.heap.size, 0, none⟩)] encZ (fun ss => ss.Perm (intKeys D0)) (Maps.size D0) (w.alloc (.cells #[.map (some b)] 89)) :=
    AnyZI.keys_gives (ρ := keysL_ren) { keysL with } Fence.wide _ trivial rfl (by omega) w.heap.size b nn D0 _ (by simp) (by simp) (by
      obtain ⟨es, clock, hb, Ft, hs, hD⟩ := hown
      exact ⟨es, clock, (Below.heap_alloc _ _ b hbl).trans hb, Ft, hs, hD⟩)
  have cK : ∀ mb W, CallsIn Fence.wide 5 Try.prog 74 #[.map mb] W fun e w' => e = .returned (.func (.func 89) #[] #[.pointer (some ⟨W.heap.size, 0, none⟩)]) ∧ w' = W.alloc (.cells #[.map mb] 89) := fun mb W => AnyZI.keys_in keysL Fence.wide 5 trivial rfl mb W
  have cS := AnyZI.sorted_in sortedL Fence.wide 5 trivial trivial trivial trivial rfl (by omega) (sortsL _) (enters_of Try.func81 (by kernel_rfl) rfl) 89 #[.pointer (some ⟨w.heap.size, 0, none⟩)] trivial (enters_of Try.func89 (by kernel_rfl) rfl) _ _ hmax hbytes _ hseq
  change CallsIn _ _ Try.prog 50 _ _ _ at cS
  have hfK : Fence.wide.fn 74 := trivial
  have hfS : Fence.wide.fn 50 := trivial
  refine callsIn_of_wp Try.func42 rfl trivial ?_ rfl
  simp only [Try.ntmps42, List.size_toArray, List.length_cons, List.length_nil, Nat.reduceAdd, Nat.reduceSub, Array.replicate_succ, Array.replicate_zero, List.push_toArray, List.append_toArray, List.nil_append, List.cons_append]
  gi_wp2_with (first
    | (gi_at_call 74; refine (cK _ _).mono ?_; rintro e w' ⟨rfl, rfl⟩)
    | (gi_at_call 50; refine cS.mono ?_; rintro e w' ⟨v, ss, rfl, hS, hrow, hnil, hb⟩))
  go_ret
  exact ⟨v, ss, rfl, hS, ownsRow_base_a hrow (by simp), ((Below.refl _ w).alloc (Nat.le_refl _) _).trans (hb.mono (by simp))⟩

end Go.Proofs.Ytefpoodhdfggdaa.AB

set_option maxRecDepth 100000
set_option maxHeartbeats 2000000
namespace Go.Proofs.Ytefpoodhdfggdaa.AB
open Go
noncomputable def X69 : Cx := ⟨tt, [], [], [], [], []⟩
theorem FN69 : fnsB Try.prog X69.fns := (show True from trivial)
theorem E69 (X : XH) (object0 : Int) (fv0 : Nat) (fv1 : Nat) {R : (Bool) → XH → Prop} (h : (∃ (a1 : (Option Nat)), XH.el X (.ref yZ2) fv0 0 = some a1 ∧ (refK a1 (fun (h2 : Nat) => (∃ (a3 : ((Option Nat) × ((Option Nat) × Int))), XH.el X yZ2 h2 0 = some a3 ∧ (∃ (es4 : List (Int × (Option Nat))), XH.vmp X (.int .i64) (.ref yZ3) a3.1 = some es4 ∧ (∀ (v5 : (Option Nat)), mfind (Cd.keq (.int .i64) object0) es4 = some v5 → (refK v5 (fun (h6 : Nat) => (∃ (a7 : (Int × (Int × (Int × ((Option SlH) × Unit))))), XH.el X yZ3 h6 0 = some a7 ∧ (∃ (a8 : Int), XH.el X (.pure (.int .i64)) fv1 0 = some a8 ∧ R (a7.1 != a8) X))))) ∧ (mfind (Cd.keq (.int .i64) object0) es4 = none → False))))))) :
 fnK X69.tt (callN Try.prog X69 0) (X69.md 69) (X69.mk1 69) Try.f69 [(.v (.int .i64 object0)), (.ref (some fv0) (.ref yZ2) 0 []), (.ref (some fv1) (.pure (.int .i64)) 0 [])] ⟨[], [some (.heap X)], ⟨0, []⟩⟩ (xfin [(.pure .bool)] R) := Eq.mp (by kernel_rfl) h
end Go.Proofs.Ytefpoodhdfggdaa.AB

namespace Go.Proofs.Ytefpoodhdfggdaa.AB
open Go

variable {X X' : XH} {t : Nat} {d : MD} {o : Int} {l : PL}

theorem mv_addO (X : XH) (o : XO) (S : List Nat) : Mv X S (X.add o) S := (Mv.add X o []).weak (fun _ h => by cases h) fun k h => .inr h

theorem c67 (h : MRep X t d) (ho : mfind (eqN o) d.p.es = some l) (x : Int) (hl0 : l.2.2.2.length ≤ 1000000) : XC Try.prog 67 [] [.ref (some (d.h o)) cL 0 [.snd, .snd, .snd], .v (.int .i64 x)] X
  fun _ X' => MGoes X t d X' { d.p with es := updK d.p.es o (l.1, l.2.1, l.2.2.1, l.2.2.2.filter fun y => !(y == x)) } := by
 refine xcOf (X := X67) rfl FN67 (by kernel_rfl) (by decide) (E67 X (d.h o) x fun X1 e1 => ?_)
 have m1 : Mv X (d.hs t) X1 (d.hs t) := by rw [e1]; exact mv_addO _ _ _
 have m1' : Mv X [] X1 [] := by rw [e1]; exact mv_addO _ _ _
 have h1 : MRep X1 t d := h.mv m1' fun k _ => by simp
 obtain ⟨hb, hs⟩ := h1.lbox ho
 have hbx : Box X1 cN X.n x := by rw [e1]; exact at_add_new _ _
 refine ⟨_, hb.el, (c68 hs hbx (fun q => ?_) hl0).mono ?_⟩
 ·have := (h.lbox ho).2.lt _ q
  omega
 rintro p X4 ⟨s4, m4⟩
 have hb4 : Box X4 cL (d.h o) (lvOf (d.sl o) l) := hb.keep (m4.keep _ hb.lt fun q => (h1.n3 _ (mfind_mem ho) _ q).2.2.2 _ (mfind_mem ho) rfl)
 refine ⟨_, hb4.el, fun X6 e6 => ?_⟩
 have e6 := e6.trans hb4.setEl
 obtain ⟨a, b⟩ := h1.lock ho (l' := (l.1, l.2.1, l.2.2.1, l.2.2.2.filter fun y => !(y == x))) s4 m4
 have e6 : X6 = X4.set (d.h o) (.arr cL [lvOf p (l.1, l.2.1, l.2.2.1, l.2.2.2.filter fun y => !(y == x))]) := e6
 rw [← e6] at a b
 exact ⟨_, a, m1.trans b, rfl⟩

theorem c69 (h : MRep X t d) {b0 b1 : Nat} {th : Int} (h0 : Box X (.ref cT) b0 (some t)) (h1 : Box X cN b1 th) (ho : mfind (eqN o) d.p.es = some l) :
  RC Try.prog 69 [.pure .bool] [.v (.int .i64 o), .ref (some b0) (.ref cT) 0 [], .ref (some b1) cN 0 []] X (l.1 != th) := by
 refine xcOf (X := X69) rfl FN69 (by kernel_rfl) (by decide) (E69 X o b0 b1 ⟨_, h0.el, refK_iff.2 ⟨t, rfl, _, h.box.el, d.hes, mp_at.2 h.mh, fun u hu => ?_, fun hu => ?_⟩⟩)
 ·have hu : mfind (eqN o) d.hes = some u := hu
  rw [h.find, ho] at hu
  have hu : some (d.h o) = u := Option.some.inj hu
  subst hu
  exact refK_iff.2 ⟨_, rfl, _, (h.lbox ho).1.el, _, h1.el, rfl, rfl⟩
 ·have hu : mfind (eqN o) d.hes = none := hu
  rw [h.find, ho] at hu; cases hu

def allHis (p : PD) (th : Int) (w : List Int) : Prop := ∀ o ∈ w, ∃ l, mfind (eqN o) p.es = some l ∧ l.1 = th

end Go.Proofs.Ytefpoodhdfggdaa.AB

namespace Go.Proofs.Ytefpoodhdfggdaa.AB
open Go

variable {X X' : XH} {t : Nat} {d : MD}

def leN : Int → Int → Bool := fun x y => decide (x ≤ y)

def noR : Value → Option (DataW Unit × List MemPlace) := fun _ => some (.nil, [])

theorem rg_int {a : Int} {x : MapEntry} (hx : x.key = .int .i64 a) (h1 : -9223372036854775808 ≤ a) (h2 : a ≤ 9223372036854775807) : WideElems.rd Try.prog 3 noR x = some (.int .i64 a, .nil) := by
 unfold WideElems.rd
 rw [hx, Go.Maps.keyOf_int_mk Try.underlying3 (by
  simp [Lit.wf, IntKind.min, IntKind.max, IntKind.bits, IntKind.signed]
  omega)]
 rfl

theorem c42a (h : MRep X t d) (hk : ∀ e ∈ d.hes, -9223372036854775808 ≤ e.1 ∧ e.1 ≤ 9223372036854775807) (hsz : d.hes.length < 2000000) :
  RC Try.prog 42 [.pure (.slice (.int .i64))] [.ref (some t) cT 0 []] X ((d.hes.map (·.1)).mergeSort leN) := by
 intro Mine G w vs hi hl hr
 obtain ⟨u, rfl⟩ : ∃ u, vs = #[u] := by
  have : vs.size = 1 := hl.symm
  exact ⟨vs[0], by
   apply Array.ext
   ·simpa using this
   ·intro i h1 h2
    have : i = 0 := by simp at h2; omega
    subst this; rfl⟩
 have hu := hr 0 (.ref (some t) cT 0 []) u rfl rfl
 refine .inl ⟨⟨Try.f42, by kernel_rfl, by decide, rfl⟩, ?_⟩
 cases hu with
 | ref _ _ _ _ b ct hl0 hp =>
 -- the arena
 obtain ⟨b', h1, h2, h3, cur, el, h4, h5, h6⟩ := hi.xarr rfl h.box.arr
 rw [hl0] at h1; cases h1
 obtain ⟨u0, q1, q2, q3⟩ := h6 0 _ rfl 0 (.mp (.int .i64) (.ref cL) (some d.hH)) (by
  simp only [MD.tv, cT, Xd.cells, List.range, List.range.loop, List.flatMap_cons, List.flatMap_nil, List.cons_append, List.nil_append, List.getElem?_cons_succ, List.getElem?_cons_zero])
 cases q2 with
 | mp _ _ _ r sz ct' hlm =>
 obtain ⟨r', sz', ct'', g1, g2, g3, ents', ck, g4, g5, g6, g7⟩ := hi.xmp rfl (mp_at.2 h.mh)
 rw [hlm] at g1; cases g1
 have hlen : ents'.size = d.hes.length := g5.symm
 have hkey : ∀ (i : Nat) x, ents'[i]? = some x → ∃ e, d.hes[i]? = some e ∧ x.key = .int .i64 e.1 := by
  intro i x hx
  have hlt := (Array.getElem?_eq_some_iff.1 hx).1
  have hi3 : i < d.hes.length := by rw [← hlen]; exact hlt
  have he : d.hes[i]? = some d.hes[i] := List.getElem?_eq_getElem hi3
  have := (g6 i _ x he hx).1
  refine ⟨_, he, ?_⟩
  have hk : VR G (.int .i64 d.hes[i].1) x.key := this
  generalize x.key = y at hk
  cases hk; rfl
 have hrd : ∀ (i : Nat) x, ents'[i]? = some x → ∃ e, d.hes[i]? = some e ∧ WideElems.rd Try.prog 3 noR x = some (.int .i64 e.1, .nil) := by
  intro i x hx
  obtain ⟨e, he, hk'⟩ := hkey i x hx
  have := hk e (List.mem_of_getElem? he)
  exact ⟨e, he, rg_int hk' this.1 this.2⟩
 have fit : WideElems.Fit Try.prog 3 noR ents' ck := by
  refine ⟨?_, g7, fun x hx => ?_⟩
  ·rw [hlen]; unfold maxLen; omega
  ·obtain ⟨i, hi'⟩ := List.getElem?_of_mem hx
   obtain ⟨e, _, ha⟩ := hrd i x (by simpa using hi')
   exact ⟨_, ha⟩
 have hown := World.ownsMap_of_fit (w := w) (R := noR) g4 fit (fun _ _ _ e => e)
 have hpm := WideShapes.sorted_perm (ents'.toList.map (WideElems.rg Try.prog 3 noR))
 have hkeys : intKeys (.map (ents'.toList.map (WideElems.rg Try.prog 3 noR))) = d.hes.map (·.1) := by
  show (ents'.toList.map (WideElems.rg Try.prog 3 noR)).map (fun p => Go.intOf p.1) = _
  refine List.ext_getElem? fun i => ?_
  rw [List.map_map, List.getElem?_map, List.getElem?_map]
  cases hx : ents'.toList[i]? with
  | none =>
   have : d.hes[i]? = none := by
    rw [List.getElem?_eq_none_iff] at hx ⊢
    rw [← hlen]; simpa using hx
   rw [this]; rfl
  | some x =>
   obtain ⟨e, he, hk'⟩ := hrd i x (by simpa using hx)
   rw [he]
   simp only [Option.map_some, Function.comp, WideElems.rg, hk', Option.getD_some]
   rfl
 have hsize : Go.Maps.size (DataW.map ((ents'.toList.map (WideElems.rg Try.prog 3 noR)).foldr DataW.insert [])) = d.hes.length := by
  show ((ents'.toList.map (WideElems.rg Try.prog 3 noR)).foldr DataW.insert []).length = _
  rw [hpm.length_eq]; simp [hlen]
 have hcell : w.cell? ⟨b, 0, none⟩ = some (.map (some r)) := by
  unfold World.cell?
  simp only [h4]
  simpa using q1
 have hcall := held_calls b r ents'.size _ noR w hcell hown (by rw [hsize]; unfold maxLen; omega) (by rw [hsize]; omega)
 refine hcall.mono ?_
 rintro e w' ⟨v, ss, rfl, hs, hrow, hbel⟩
 have hssp : ss.Perm (d.hes.map (·.1)) := by
  refine hs.trans ?_
  rw [← hkeys]
  unfold intKeys
  exact hpm.map _
 have hms : ss.mergeSort (fun x y => decide (x ≤ y)) = (d.hes.map (·.1)).mergeSort leN := mergeSort_of_perm_i hssp
 have hlen2 : ss.length = ((d.hes.map (·.1)).mergeSort leN).length := by
  rw [← hms]; simp
 rw [hms, hlen2] at hrow
 obtain ⟨G', k1, k2, k3, k4, k5⟩ := hi.rowInt hbel hrow
 exact ⟨v, _, X, G', rfl, ⟨rfl, rfl⟩, k1, k2, k3, k4, k5⟩

end Go.Proofs.Ytefpoodhdfggdaa.AB

namespace Go.Proofs.Ytefpoodhdfggdaa.AB
open Go

variable {X X' : XH} {t : Nat} {d : MD} {o : Int} {l : PL}

def heldP (p : PD) : List Int := (p.es.map (·.1)).mergeSort leN

theorem c42 (h : MRep X t d) (hk : ∀ e ∈ d.p.es, -9223372036854775808 ≤ e.1 ∧ e.1 ≤ 9223372036854775807) (hsz : d.p.es.length < 2000000) : RC Try.prog 42 [.pure (.slice (.int .i64))] [.ref (some t) cT 0 []] X (heldP d.p) := by
 have hm : d.hes.map (·.1) = d.p.es.map (·.1) := by unfold MD.hes; rw [List.map_map]; rfl
 have := c42a h (fun e he => by
  unfold MD.hes at he
  obtain ⟨x, hx, rfl⟩ := List.mem_map.1 he
  exact hk x hx) (by unfold MD.hes; rw [List.length_map]; exact hsz)
 rw [hm] at this
 exact this

end Go.Proofs.Ytefpoodhdfggdaa.AB

namespace Go.Proofs.Ytefpoodhdfggdaa.AB
open Go


def pl (m : RM) : PL := (m.w, m.n, m.s + 1, m.q)

structure Cp (p : PD) (l : List RM) (T : Nat) : Prop where
 turn : p.turn = (T : Int)
 srt : (l.map (·.o)).Pairwise (· < ·)
 fnd : ∀ o, mfind (eqN o) p.es = (findR l o).map pl
 nd : (p.es.map (·.1)).Nodup
 prm : (p.es.map (·.1)).Perm (l.map (·.o))
 ws1 : ∀ th v, mfind (eqN th) p.ws = some v → ∃ m ∈ l, m.o = v ∧ th ∈ m.q
 ws2 : ∀ m ∈ l, ∀ th ∈ m.q, mfind (eqN th) p.ws = some m.o
 wnd : (p.ws.map (·.1)).Nodup
 qnd : ∀ m ∈ l, m.q.Nodup
 pos : ∀ m ∈ l, 1 ≤ m.o ∧ m.o ≤ 9223372036854775807 ∧ 1 ≤ m.w ∧ ∀ th ∈ m.q, 1 ≤ th
 snc : ∀ m ∈ l, 0 ≤ m.s ∧ m.s < (T : Int)
 sin : ∀ m ∈ l, ∀ m' ∈ l, m.s = m'.s → m.o = m'.o

variable {p : PD} {l : List RM} {T : Nat} {o th : Int} {m m' : RM}

theorem Cp.nod (h : Cp p l T) : (l.map (·.o)).Nodup := h.srt.imp fun h => Int.ne_of_lt h

theorem Cp.uniq (h : Cp p l T) (h1 : m ∈ l) (h2 : m' ∈ l) (e : m.o = m'.o) : m = m' := by
 have hn := h.nod
 clear h
 induction l with
 | nil => cases h1
 | cons y r ih =>
  rw [List.map_cons, List.nodup_cons] at hn
  rcases List.mem_cons.1 h1 with g1 | g1
  ·rcases List.mem_cons.1 h2 with g2 | g2
   ·rw [g1, g2]
   ·exact absurd (List.mem_map.2 ⟨_, g2, by rw [← e, g1]⟩) hn.1
  ·rcases List.mem_cons.1 h2 with g2 | g2
   ·exact absurd (List.mem_map.2 ⟨_, g1, by rw [e, g2]⟩) hn.1
   ·exact ih g1 g2 hn.2

theorem Cp.findOf (h : Cp p l T) (hm : m ∈ l) : findR l m.o = some m := by
 obtain ⟨m2, h2⟩ := findR_mem ⟨m, hm, rfl⟩
 obtain ⟨h3, h4⟩ := findR_some h2
 rw [h2, h.uniq h3 hm h4]

theorem updR_mem {l : List RM} {m y : RM} (h : y ∈ updR l m) : (y = m ∧ ∃ z ∈ l, z.o = m.o) ∨ (y ∈ l ∧ y.o ≠ m.o) := by
 obtain ⟨z, hz, rfl⟩ := List.mem_map.1 h
 by_cases e : z.o = m.o
 ·rw [if_pos e]; exact .inl ⟨rfl, z, hz, e⟩
 ·rw [if_neg e]; exact .inr ⟨hz, e⟩

theorem updR_self {l : List RM} {m : RM} (h : ∃ z ∈ l, z.o = m.o) : m ∈ updR l m := by
 obtain ⟨z, hz, e⟩ := h
 exact List.mem_map.2 ⟨z, hz, if_pos e⟩

theorem updR_other {l : List RM} {m y : RM} (h : y ∈ l) (hne : y.o ≠ m.o) : y ∈ updR l m := List.mem_map.2 ⟨y, h, if_neg hne⟩

theorem findR_upd {l : List RM} {m : RM} (h : ∃ z ∈ l, z.o = m.o) (k : Int) : findR (updR l m) k = if k = m.o then some m else findR l k := by
 induction l with
 | nil => obtain ⟨z, hz, _⟩ := h; cases hz
 | cons y r ih =>
  unfold findR updR
  rw [List.map_cons, List.find?_cons, List.find?_cons]
  by_cases hy : y.o = m.o
  ·rw [if_pos hy]
   by_cases hk : k = m.o
   ·rw [if_pos hk]; simp [hk]
   ·have e1 : (m.o == k) = false := by simpa using fun e => hk e.symm
    have e2 : (y.o == k) = false := by simpa [hy] using fun e => hk e.symm
    simp only [e1, e2, if_neg hk]
    have : ∀ r : List RM, (r.map fun y => if y.o = m.o then m else y).find? (fun m => m.o == k) = r.find? fun m => m.o == k := by
     intro r
     induction r with
     | nil => rfl
     | cons z r ih =>
      rw [List.map_cons, List.find?_cons, List.find?_cons, ih]
      by_cases hz : z.o = m.o
      ·have e3 : (z.o == k) = false := by simpa [hz] using fun e => hk e.symm
       rw [if_pos hz]; simp only [e1, e3]
      ·rw [if_neg hz]
    exact this r
  ·rw [if_neg hy]
   by_cases hyk : y.o = k
   ·have e1 : (y.o == k) = true := by simpa using hyk
    simp only [e1]
    rw [if_neg (fun e => hy (hyk.trans e))]
   ·have e1 : (y.o == k) = false := by simpa using hyk
    simp only [e1]
    obtain ⟨z, hz, hzo⟩ := h
    rcases List.mem_cons.1 hz with rfl | hz
    ·exact absurd hzo hy
    ·exact ih ⟨z, hz, hzo⟩

theorem Cp.upd (h : Cp p l T) (hm : m ∈ l) (e : m'.o = m.o) {ws : List (Int × Int)} {T' : Nat} (hT : T ≤ T') (hw1 : ∀ th v, mfind (eqN th) ws = some v → (v ≠ m.o → ∃ y ∈ l, y.o = v ∧ th ∈ y.q) ∧ (v = m.o → th ∈ m'.q))
  (hw2 : ∀ th ∈ m'.q, mfind (eqN th) ws = some m.o) (hw3 : ∀ y ∈ l, y.o ≠ m.o → ∀ th ∈ y.q, mfind (eqN th) ws = some y.o) (hwn : (ws.map (·.1)).Nodup) (hq : m'.q.Nodup) (hp : 1 ≤ m'.w ∧ ∀ th ∈ m'.q, 1 ≤ th) (hs : 0 ≤ m'.s ∧ m'.s < (T' : Int))
  (hsi : ∀ y ∈ l, y.o ≠ m.o → y.s ≠ m'.s) : Cp { es := updK p.es m.o (pl m'), ws := ws, turn := (T' : Int) } (updR l m') T' := by
 have hex : ∃ z ∈ l, z.o = m'.o := ⟨m, hm, e.symm⟩
 have hmf : mfind (eqN m.o) p.es = some (pl m) := by rw [h.fnd, h.findOf hm]; rfl
 have cases' : ∀ y ∈ updR l m', y = m' ∨ (y ∈ l ∧ y.o ≠ m.o) := fun y hy => by
  rcases updR_mem hy with ⟨rfl, _⟩ | ⟨h1, h2⟩
  ·exact .inl rfl
  ·exact .inr ⟨h1, by rw [← e]; exact h2⟩
 refine ⟨rfl, by rw [updR_keys]; exact h.srt, fun k => ?_, by rw [updK_keys]; exact h.nd, by rw [updK_keys, updR_keys]; exact h.prm, fun th v hv => ?_, fun y hy th hth => ?_, hwn, fun y hy => ?_, fun y hy => ?_, fun y hy => ?_, fun y hy y' hy' es => ?_⟩
 ·show mfind (eqN k) (updK p.es m.o (pl m')) = _
  rw [updK_find hmf, findR_upd hex, e]
  split
  ·rfl
  ·exact h.fnd k
 ·obtain ⟨a, b⟩ := hw1 th v hv
  by_cases hvm : v = m.o
  ·exact ⟨m', updR_self hex, e.trans hvm.symm, b hvm⟩
  ·obtain ⟨y, hy, hyo, hyq⟩ := a hvm
   exact ⟨y, updR_other hy (by rw [e, hyo]; exact hvm), hyo, hyq⟩
 ·rcases cases' y hy with rfl | ⟨hy, hne⟩
  ·rw [e]; exact hw2 th hth
  ·exact hw3 y hy hne th hth
 ·rcases cases' y hy with rfl | ⟨hy, hne⟩
  ·exact hq
  ·exact h.qnd y hy
 ·rcases cases' y hy with rfl | ⟨hy, hne⟩
  ·obtain ⟨a, b, _, _⟩ := h.pos m hm
   exact ⟨by rw [e]; exact a, by rw [e]; exact b, hp.1, hp.2⟩
  ·exact h.pos y hy
 ·rcases cases' y hy with rfl | ⟨hy, hne⟩
  ·exact hs
  ·have := h.snc y hy; omega
 ·rcases cases' y hy with g1 | ⟨g1, hne⟩
  ·rcases cases' y' hy' with g2 | ⟨g2, hne'⟩
   ·rw [g1, g2]
   ·rw [g1] at es
    exact absurd es.symm (hsi y' g2 hne')
  ·rcases cases' y' hy' with g2 | ⟨g2, hne'⟩
   ·rw [g2] at es
    exact absurd es (hsi y g1 hne)
   ·exact h.sin y g1 y' g2 es

theorem mfind_mdel {α : Type} {es : List (Int × α)} (hn : (es.map (·.1)).Nodup) (o k : Int) : mfind (eqN k) (mdel (eqN o) es) = if k = o then none else mfind (eqN k) es := by
 rw [mdel_eq es o hn]
 induction es with
 | nil => simp [mfind]
 | cons y r ih =>
  obtain ⟨a, b⟩ := y
  rw [List.map_cons, List.nodup_cons] at hn
  rw [List.filter_cons]
  have ih := ih hn.2
  by_cases ha : eqN o a = true
  ·have hao := eqN_iff.1 ha
   subst hao
   simp only [ha, Bool.not_true, Bool.false_eq_true, if_false]
   rw [ih]
   by_cases hk : k = o
   ·simp [hk]
   ·rw [if_neg hk, if_neg hk]
    have : eqN k o = false := by
     cases hc : eqN k o with
     | false => rfl
     | true => exact absurd (eqN_iff.1 hc) hk
    conv => rhs; unfold mfind
    simp only [this]
  ·have ha : eqN o a = false := by simpa using ha
   simp only [ha, Bool.not_false, if_true]
   unfold mfind
   cases hka : eqN k a with
   | true =>
    have := eqN_iff.1 hka
    subst this
    rw [if_neg (fun e => by subst e; rw [eqN_iff.2 rfl] at ha; cases ha)]
   | false => exact ih

theorem mdel_nodup {α : Type} {es : List (Int × α)} (hn : (es.map (·.1)).Nodup) (o : Int) : ((mdel (eqN o) es).map (·.1)).Nodup := by
 rw [mdel_eq es o hn]
 exact hn.sublist (List.filter_sublist.map _)

theorem findR_del {l : List RM} (k o : Int) : findR (delR l o) k = if k = o then none else findR l k := by
 unfold findR delR
 rw [List.find?_filter]
 split
 ·rename_i hk
  subst hk
  rw [List.find?_eq_none]
  intro y _
  simp
 ·rename_i hk
  congr 1
  funext y
  by_cases hy : y.o = k
  ·simp [hy, hk]
  ·simp [hy]

theorem Cp.del (h : Cp p l T) (hm : m ∈ l) (hq : m.q = []) : Cp { p with es := mdel (eqN m.o) p.es } (delR l m.o) T := by
 have hin : ∀ y ∈ delR l m.o, y ∈ l ∧ y.o ≠ m.o := fun y hy => by
  obtain ⟨a, b⟩ := List.mem_filter.1 hy
  exact ⟨a, by simpa using b⟩
 refine ⟨h.turn, h.srt.sublist (List.filter_sublist.map _), fun k => ?_, mdel_nodup h.nd _, ?_, fun th v hv => ?_, fun y hy => h.ws2 y (hin y hy).1, h.wnd, fun y hy => h.qnd y (hin y hy).1, fun y hy => h.pos y (hin y hy).1, fun y hy => h.snc y (hin y hy).1, fun y hy y' hy' => h.sin y (hin y hy).1 y' (hin y' hy').1⟩
 ·show mfind (eqN k) (mdel (eqN m.o) p.es) = _
  rw [mfind_mdel h.nd, findR_del]
  split
  ·rfl
  ·exact h.fnd k
 ·show ((mdel (eqN m.o) p.es).map (·.1)).Perm ((delR l m.o).map (·.o))
  rw [mdel_eq _ _ h.nd]
  have e1 : (p.es.filter fun e => !(eqN m.o e.1)).map (·.1) = (p.es.map (·.1)).filter fun k => !(eqN m.o k) := by rw [List.filter_map]; rfl
  have e2 : (delR l m.o).map (·.o) = (l.map (·.o)).filter fun k => !(eqN m.o k) := by
   unfold delR
   rw [List.filter_map]
   congr 1
   refine List.filter_congr fun y _ => ?_
   simp only [Function.comp]
   by_cases hy : y.o = m.o
   ·rw [hy, eqN_iff.2 rfl]; simp
   ·have : eqN m.o y.o = false := by
     cases hc : eqN m.o y.o with
     | false => rfl
     | true => exact absurd (eqN_iff.1 hc).symm hy
    rw [this]; simp [hy]
  rw [e1, e2]
  exact h.prm.filter _
 ·obtain ⟨y, hy, hyo, hyq⟩ := h.ws1 th v hv
  refine ⟨y, List.mem_filter.2 ⟨hy, ?_⟩, hyo, hyq⟩
  by_cases e : y.o = m.o
  ·have := h.uniq hy hm e
   subst this
   rw [hq] at hyq; cases hyq
  ·simpa using e

theorem wrapT {T : Nat} (h : T ≤ 1000000) : IntKind.wrap .i64 ((T : Int) + 1) = ((T + 1 : Nat) : Int) := by
 rw [wrap64 (by omega) (by omega)]; omega

theorem Cp.next (h : Cp p l T) (hm : m ∈ l) (hT : T ≤ 1000) : (nextP p m.o).1 = (nextS l m (T : Int)).1 ∧ ∃ T', T ≤ T' ∧ T' ≤ T + 1 ∧ Cp (nextP p m.o).2 (nextS l m (T : Int)).2.1 T' ∧ (nextS l m (T : Int)).2.2 = (T' : Int) := by
 have hf : mfind (eqN m.o) p.es = some (pl m) := by rw [h.fnd, h.findOf hm]; rfl
 unfold nextP nextS
 rw [hf]
 cases hq : m.q with
 | nil =>
  have : (pl m).2.2.2 = [] := hq
  simp only [this]
  exact ⟨trivial, T, Nat.le_refl _, Nat.le_succ _, h.del hm hq, rfl⟩
 | cons x q =>
  have hpq : (pl m).2.2.2 = x :: q := hq
  simp only [hpq]
  have hx : mfind (eqN x) p.ws = some m.o := h.ws2 m hm x (by rw [hq]; exact List.mem_cons_self ..)
  have hqn := h.qnd m hm
  rw [hq, List.nodup_cons] at hqn
  have hpo := h.pos m hm
  refine ⟨trivial, T + 1, Nat.le_succ _, Nat.le_refl _, ?_, by rw [wrapT (by omega)]⟩
  have key := h.upd (m' := ⟨m.o, x, 1, (T : Int), q⟩) hm rfl (ws := mdel (eqN x) p.ws) (T' := T + 1) (Nat.le_succ _) (fun th v hv => ?_) (fun th hth => ?_) (fun y hy hne th hth => ?_) (mdel_nodup h.wnd _) hqn.2
   ⟨hpo.2.2.2 x (by rw [hq]; exact List.mem_cons_self ..), fun th hth => hpo.2.2.2 th (by rw [hq]; exact List.mem_cons_of_mem _ hth)⟩ (by show 0 ≤ (T : Int) ∧ (T : Int) < ((T + 1 : Nat) : Int); omega)
   (fun y hy _ e => by
    have := (h.snc y hy).2
    have e : y.s = (T : Int) := e
    omega)
  ·have e1 : nextT p = ((T + 1 : Nat) : Int) := by unfold nextT; rw [h.turn, wrapT (by omega)]
   rw [e1]
   have e2 : updK (updK p.es m.o ((pl m).1, (pl m).2.1, (pl m).2.2.1, q)) m.o (x, 1, ((T + 1 : Nat) : Int), q) = updK p.es m.o (pl ⟨m.o, x, 1, (T : Int), q⟩) := by
    unfold updK
    rw [List.map_map]
    refine List.map_congr_left fun e _ => ?_
    simp only [Function.comp]
    by_cases he : e.1 = m.o
    ·simp [he, pl]
    ·simp [he]
   rw [e2]
   exact key
  ·rw [mfind_mdel h.wnd] at hv
   split at hv
   ·cases hv
   ·rename_i hne
    obtain ⟨y, hy, hyo, hyq⟩ := h.ws1 th v hv
    refine ⟨fun _ => ⟨y, hy, hyo, hyq⟩, fun hvm => ?_⟩
    have := h.uniq hy hm (hyo.trans hvm)
    subst this
    rw [hq] at hyq
    rcases List.mem_cons.1 hyq with rfl | hyq
    ·exact absurd rfl hne
    ·exact hyq
  ·rw [mfind_mdel h.wnd, if_neg (fun e => by
    subst e
    exact hqn.1 hth)]
   exact h.ws2 m hm th (by rw [hq]; exact List.mem_cons_of_mem _ hth)
  ·rw [mfind_mdel h.wnd, if_neg (fun e => by
    subst e
    have h2 := h.ws2 y hy th hth
    rw [hx] at h2
    exact hne (Option.some.inj h2).symm)]
   exact h.ws2 y hy th hth

end Go.Proofs.Ytefpoodhdfggdaa.AB

namespace Go.Proofs.Ytefpoodhdfggdaa.AB
open Go

variable {p : PD} {l : List RM} {T N : Nat} {o th : Int} {m m' : RM}

theorem Cp.tell (h : Cp p l T) (hm : m ∈ l) (n : Int) : Cp { p with es := updK p.es m.o (pl ⟨m.o, m.w, n, m.s, m.q⟩) } (updR l ⟨m.o, m.w, n, m.s, m.q⟩) T := by
 have key := h.upd (m' := ⟨m.o, m.w, n, m.s, m.q⟩) hm rfl (ws := p.ws) (T' := T) (Nat.le_refl _) (fun th v hv => ?_) (fun th hth => h.ws2 m hm th hth) (fun y hy _ th hth => h.ws2 y hy th hth) h.wnd (h.qnd m hm)
  ⟨(h.pos m hm).2.2.1, (h.pos m hm).2.2.2⟩ (h.snc m hm) (fun y hy hne e => hne (h.sin y hy m hm e))
 ·rw [← h.turn] at key; exact key
 ·obtain ⟨y, hy, hyo, hyq⟩ := h.ws1 th v hv
  refine ⟨fun _ => ⟨y, hy, hyo, hyq⟩, fun hvm => ?_⟩
  have := h.uniq hy hm (hyo.trans hvm)
  subst this
  exact hyq

theorem Cp.line (h : Cp p l T) (hm : m ∈ l) (hth : 1 ≤ th) (hno : ∀ y ∈ l, th ∉ y.q) : Cp { p with es := updK p.es m.o (pl ⟨m.o, m.w, m.n, m.s, m.q ++ [th]⟩), ws := mset (eqN th) th m.o p.ws } (updR l ⟨m.o, m.w, m.n, m.s, m.q ++ [th]⟩) T := by
 have hnone : mfind (eqN th) p.ws = none := by
  cases hc : mfind (eqN th) p.ws with
  | none => rfl
  | some v => obtain ⟨y, hy, _, hyq⟩ := h.ws1 th v hc; exact absurd hyq (hno y hy)
 have hset : mset (eqN th) th m.o p.ws = p.ws ++ [(th, m.o)] := mset_absent hnone
 have hfind : ∀ k, mfind (eqN k) (p.ws ++ [(th, m.o)]) = if k = th then some m.o else mfind (eqN k) p.ws := by
  intro k
  have hn := mfind_none hnone
  generalize p.ws = ws at hn
  clear hset hnone
  induction ws with
  | nil =>
   show mfind (eqN k) [(th, m.o)] = _
   unfold mfind
   by_cases hk : k = th
   ·rw [eqN_iff.2 hk, if_pos hk]
   ·have : eqN k th = false := by
     cases hc : eqN k th with
     | false => rfl
     | true => exact absurd (eqN_iff.1 hc) hk
    rw [this, if_neg hk]
    rfl
  | cons y r ih =>
   obtain ⟨a, b⟩ := y
   have ih := ih fun e he => hn e (List.mem_cons_of_mem _ he)
   have ha : a ≠ th := hn (a, b) (List.mem_cons_self ..)
   rw [List.cons_append]
   unfold mfind
   cases hka : eqN k a with
   | true =>
    have := eqN_iff.1 hka
    subst this
    rw [if_neg ha]
   | false => exact ih
 have key := h.upd (m' := ⟨m.o, m.w, m.n, m.s, m.q ++ [th]⟩) hm rfl (ws := p.ws ++ [(th, m.o)]) (T' := T) (Nat.le_refl _) (fun t v hv => ?_) (fun t ht => ?_) (fun y hy _ t ht => ?_) ?_ ?_
  ⟨(h.pos m hm).2.2.1, fun t ht => ?_⟩ (h.snc m hm) (fun y hy hne e => hne (h.sin y hy m hm e))
 ·rw [hset]; rw [← h.turn] at key; exact key
 ·rw [hfind] at hv
  split at hv
  ·rename_i e
   cases hv
   exact ⟨fun q => absurd rfl q, fun _ => by rw [e]; simp⟩
  ·obtain ⟨y, hy, hyo, hyq⟩ := h.ws1 t v hv
   refine ⟨fun _ => ⟨y, hy, hyo, hyq⟩, fun hvm => ?_⟩
   have := h.uniq hy hm (hyo.trans hvm)
   subst this
   exact List.mem_append_left _ hyq
 ·rw [hfind]
  split
  ·rfl
  ·rename_i e
   rcases List.mem_append.1 ht with ht | ht
   ·exact h.ws2 m hm t ht
   ·exact absurd (List.mem_singleton.1 ht) e
 ·rw [hfind, if_neg (fun e => hno y hy (by rw [← e]; exact ht))]
  exact h.ws2 y hy t ht
 ·rw [List.map_append, List.nodup_append]
  refine ⟨h.wnd, by simp, fun a ha b hb => ?_⟩
  simp only [List.map_cons, List.map_nil, List.mem_singleton] at hb
  subst hb
  obtain ⟨y, hy, rfl⟩ := List.mem_map.1 ha
  exact mfind_none hnone y hy
 ·show (m.q ++ [th]).Nodup
  rw [List.nodup_append]
  refine ⟨h.qnd m hm, by simp, fun a ha b hb => ?_⟩
  rw [List.mem_singleton] at hb
  subst hb
  exact fun e => hno m hm (by rw [← e]; exact ha)
 ·rcases List.mem_append.1 ht with ht | ht
  ·exact (h.pos m hm).2.2.2 t ht
  ·rw [List.mem_singleton.1 ht]; exact hth

theorem insR_cons (y : RM) (r : List RM) (m : RM) : insR (y :: r) m = if y.o < m.o then y :: insR r m else m :: y :: r := by
 unfold insR
 by_cases h : y.o < m.o
 ·rw [if_pos h, List.takeWhile_cons_of_pos (by simpa using h), List.dropWhile_cons_of_pos (by simpa using h)]
  rfl
 ·rw [if_neg h, List.takeWhile_cons_of_neg (by simpa using h), List.dropWhile_cons_of_neg (by simpa using h)]
  rfl

theorem insR_perm (l : List RM) (m : RM) : (insR l m).Perm (m :: l) := by
 induction l with
 | nil => exact List.Perm.refl _
 | cons y r ih =>
  rw [insR_cons]
  split
  ·exact (ih.cons y).trans (List.Perm.swap m y r)
  ·exact List.Perm.refl _

theorem insR_mem {y : RM} : y ∈ insR l m ↔ y = m ∨ y ∈ l := by rw [(insR_perm l m).mem_iff, List.mem_cons]

theorem insR_sorted (h : (l.map (·.o)).Pairwise (· < ·)) (hn : ∀ y ∈ l, y.o ≠ m.o) : ((insR l m).map (·.o)).Pairwise (· < ·) := by
 induction l with
 | nil => simp [insR]
 | cons y r ih =>
  rw [List.map_cons, List.pairwise_cons] at h
  rw [insR_cons]
  split
  ·rename_i hlt
   rw [List.map_cons, List.pairwise_cons]
   refine ⟨fun a ha => ?_, ih h.2 fun y hy => hn y (List.mem_cons_of_mem _ hy)⟩
   obtain ⟨z, hz, rfl⟩ := List.mem_map.1 ha
   rcases insR_mem.1 hz with rfl | hz
   ·exact hlt
   ·exact h.1 _ (List.mem_map.2 ⟨z, hz, rfl⟩)
  ·rename_i hlt
   have := hn y (List.mem_cons_self ..)
   rw [List.map_cons, List.map_cons, List.pairwise_cons, List.pairwise_cons]
   refine ⟨fun a ha => ?_, h⟩
   rcases List.mem_cons.1 ha with rfl | ha
   ·omega
   ·have := h.1 a ha; omega

theorem findR_ins (hn : ∀ y ∈ l, y.o ≠ m.o) (k : Int) : findR (insR l m) k = if k = m.o then some m else findR l k := by
 induction l with
 | nil =>
  show findR [m] k = _
  unfold findR
  by_cases hk : k = m.o
  ·simp [hk]
  ·have : (m.o == k) = false := by simpa using fun e => hk e.symm
   simp [this, hk]
 | cons y r ih =>
  have ih := ih fun z hz => hn z (List.mem_cons_of_mem _ hz)
  have hy := hn y (List.mem_cons_self ..)
  rw [insR_cons]
  split
  ·unfold findR at ih ⊢
   rw [List.find?_cons, List.find?_cons]
   by_cases hyk : y.o = k
   ·have e1 : (y.o == k) = true := by simpa using hyk
    simp only [e1]
    rw [if_neg (fun e => hy (hyk.trans e))]
   ·have e1 : (y.o == k) = false := by simpa using hyk
    simp only [e1]
    exact ih
  ·unfold findR
   rw [List.find?_cons]
   by_cases hk : k = m.o
   ·simp [hk]
   ·have : (m.o == k) = false := by simpa using fun e => hk e.symm
    simp only [this, if_neg hk]

theorem Cp.fresh (h : Cp p l T) (hno : ∀ y ∈ l, y.o ≠ o) (ho : 1 ≤ o ∧ o ≤ 9223372036854775807) (hth : 1 ≤ th) (hT : T ≤ 1000000) :
  Cp { p with es := updK (p.es ++ [(o, (0, 0, 0, []))]) o (th, 1, nextT p, []), turn := nextT p } (insR l ⟨o, th, 1, (T : Int), []⟩) (T + 1) := by
 have e1 : nextT p = ((T + 1 : Nat) : Int) := by unfold nextT; rw [h.turn, wrapT hT]
 have hf : mfind (eqN o) p.es = none := by rw [h.fnd, findR_none hno]; rfl
 have hk := mfind_none hf
 have e2 : updK (p.es ++ [(o, (0, 0, 0, []))]) o (th, 1, nextT p, []) = p.es ++ [(o, (th, 1, nextT p, []))] := by
  unfold updK
  rw [List.map_append]
  congr 1
  ·exact (List.map_congr_left (g := id) fun y hy => if_neg (hk y hy)).trans (List.map_id _)
  ·simp
 rw [e2]
 have hno' : ∀ y ∈ l, y.o ≠ (⟨o, th, 1, (T : Int), []⟩ : RM).o := hno
 have hfind : ∀ (es : List (Int × PL)) (v : PL), (∀ e ∈ es, e.1 ≠ o) → ∀ k, mfind (eqN k) (es ++ [(o, v)]) = if k = o then some v else mfind (eqN k) es := by
  intro es v hn k
  clear hk e2 hf
  induction es with
  | nil =>
   show mfind (eqN k) [(o, v)] = _
   unfold mfind
   by_cases hk : k = o
   ·rw [eqN_iff.2 hk, if_pos hk]
   ·have : eqN k o = false := by
     cases hc : eqN k o with
     | false => rfl
     | true => exact absurd (eqN_iff.1 hc) hk
    rw [this, if_neg hk]
    rfl
  | cons y r ih =>
   obtain ⟨a, b⟩ := y
   have ih := ih fun e he => hn e (List.mem_cons_of_mem _ he)
   have ha : a ≠ o := hn (a, b) (List.mem_cons_self ..)
   rw [List.cons_append]
   unfold mfind
   cases hka : eqN k a with
   | true =>
    have := eqN_iff.1 hka
    subst this
    rw [if_neg ha]
   | false => exact ih
 refine ⟨e1, insR_sorted h.srt hno', fun k => ?_, ?_, ?_, fun t v hv => ?_, fun y hy t ht => ?_, h.wnd, fun y hy => ?_, fun y hy => ?_, fun y hy => ?_, fun y hy y' hy' es => ?_⟩
 ·show mfind (eqN k) (p.es ++ [(o, (th, 1, nextT p, []))]) = _
  rw [hfind _ _ hk, findR_ins hno']
  split
  ·rw [e1]; simp [pl]
  ·exact h.fnd k
 ·show ((p.es ++ [(o, ((th, 1, nextT p, []) : PL))]).map (fun e : Int × PL => e.1)).Nodup
  rw [List.map_append, List.nodup_append]
  refine ⟨h.nd, by simp, fun a ha b hb => ?_⟩
  simp only [List.map_cons, List.map_nil, List.mem_singleton] at hb
  subst hb
  obtain ⟨y, hy, rfl⟩ := List.mem_map.1 ha
  exact hk y hy
 ·show ((p.es ++ [(o, ((th, 1, nextT p, []) : PL))]).map (fun e : Int × PL => e.1)).Perm ((insR l ⟨o, th, 1, (T : Int), []⟩).map (fun m : RM => m.o))
  rw [List.map_append]
  refine List.Perm.trans ?_ ((insR_perm l ⟨o, th, 1, (T : Int), []⟩).map (·.o)).symm
  rw [List.map_cons]
  exact (List.perm_append_comm).trans (h.prm.cons o)
 ·obtain ⟨y, hy, hyo, hyq⟩ := h.ws1 t v hv
  exact ⟨y, insR_mem.2 (.inr hy), hyo, hyq⟩
 ·rcases insR_mem.1 hy with rfl | hy
  ·cases ht
  ·exact h.ws2 y hy t ht
 ·rcases insR_mem.1 hy with rfl | hy
  ·exact List.nodup_nil
  ·exact h.qnd y hy
 ·rcases insR_mem.1 hy with rfl | hy
  ·exact ⟨ho.1, ho.2, hth, fun t ht => by cases ht⟩
  ·exact h.pos y hy
 ·rcases insR_mem.1 hy with rfl | hy
  ·show 0 ≤ (T : Int) ∧ (T : Int) < ((T + 1 : Nat) : Int); omega
  ·have := h.snc y hy; omega
 ·rcases insR_mem.1 hy with g | g
  ·rcases insR_mem.1 hy' with g2 | g2
   ·rw [g, g2]
   ·rw [g] at es
    have := (h.snc y' g2).2
    have es : (T : Int) = y'.s := es
    omega
  ·rcases insR_mem.1 hy' with g2 | g2
   ·rw [g2] at es
    have := (h.snc y g).2
    have es : y.s = (T : Int) := es
    omega
   ·exact h.sin y g y' g2 es

def sumQ (l : List RM) : Nat := (l.map fun m => m.q.length).sum

theorem sumQ_append (a b : List RM) : sumQ (a ++ b) = sumQ a + sumQ b := by unfold sumQ; simp
theorem sumQ_cons (m : RM) (b : List RM) : sumQ (m :: b) = m.q.length + sumQ b := by unfold sumQ; simp

theorem sumQ_perm {a b : List RM} (h : a.Perm b) : sumQ a = sumQ b := by
 induction h with
 | nil => rfl
 | cons x _ ih => rw [sumQ_cons, sumQ_cons, ih]
 | swap x y l => rw [sumQ_cons, sumQ_cons, sumQ_cons, sumQ_cons]; omega
 | trans _ _ h1 h2 => rw [h1, h2]

theorem sumQ_upd (hn : (l.map (·.o)).Nodup) (hm : m ∈ l) (e : m'.o = m.o) : sumQ (updR l m') + m.q.length = sumQ l + m'.q.length := by
 obtain ⟨A, C, rfl⟩ := List.append_of_mem hm
 rw [updR_at hn e, sumQ_append, sumQ_append, sumQ_cons, sumQ_cons]
 omega

theorem sumQ_next (hn : (l.map (·.o)).Nodup) (hm : m ∈ l) {t : Int} : (sumQ (nextS l m t).2.1 ≤ sumQ l ∧ (nextS l m t).2.2 = t) ∨ sumQ (nextS l m t).2.1 + 1 ≤ sumQ l := by
 unfold nextS
 cases hq : m.q with
 | nil =>
  refine .inl ⟨?_, rfl⟩
  show sumQ (delR l m.o) ≤ _
  obtain ⟨A, C, rfl⟩ := List.append_of_mem hm
  rw [delR_at hn, sumQ_append, sumQ_append, sumQ_cons]
  omega
 | cons x q =>
  refine .inr ?_
  have := sumQ_upd hn hm (m' := ⟨m.o, x, 1, t, q⟩) rfl
  rw [hq] at this
  simp only [List.length_cons] at this
  show sumQ (updR l ⟨m.o, x, 1, t, q⟩) + 1 ≤ _
  omega

structure Cb (p : PD) (l : List RM) (T N : Nat) : Prop where
 cp : Cp p l T
 wt : T + sumQ l ≤ N
 nb : ∀ m ∈ l, 1 ≤ m.n ∧ m.n ≤ (N : Int) ∧ m.q.length ≤ N
 ln : l.length ≤ N

theorem waits_iff (h : Cp p l T) : (∃ v, mfind (eqN th) p.ws = some v ∧ 0 < v) ↔ waitsR l th = true := by
 unfold waitsR
 rw [List.any_eq_true]
 constructor
 ·rintro ⟨v, hv, _⟩
  obtain ⟨m, hm, _, hq⟩ := h.ws1 th v hv
  exact ⟨m, hm, List.any_eq_true.2 ⟨th, hq, by simp⟩⟩
 ·rintro ⟨m, hm, hq⟩
  obtain ⟨t, ht, e⟩ := List.any_eq_true.1 hq
  have e : t = th := by simpa using e
  subst e
  have := (h.pos m hm).1
  exact ⟨m.o, h.ws2 m hm t ht, by omega⟩

theorem updR_len (l : List RM) (m : RM) : (updR l m).length = l.length := by simp [updR]

theorem Cb.enter (h : Cb p l T N) (hN : N ≤ 999) (ho : o ≤ 9223372036854775807) : (enterP p o th).1 = (enterS l (T : Int) o th).1 ∧ ∃ T', Cb (enterP p o th).2 (enterS l (T : Int) o th).2.1 T' (N + 1) ∧ (enterS l (T : Int) o th).2.2 = (T' : Int) := by
 have hT := h.wt
 have same : Cb p l T (N + 1) := ⟨h.cp, by omega, fun m hm => by have := h.nb m hm; omega, by have := h.ln; omega⟩
 unfold enterP enterS
 by_cases h1 : o < 1 ∨ th < 1
 ·rw [if_pos h1, if_pos h1]; exact ⟨rfl, T, same, rfl⟩
 rw [if_neg h1, if_neg h1]
 by_cases h2 : waitsR l th = true
 ·rw [if_pos ((waits_iff h.cp).2 h2), if_pos h2]; exact ⟨rfl, T, same, rfl⟩
 rw [if_neg (fun q => h2 ((waits_iff h.cp).1 q)), if_neg h2]
 have hnq : ∀ y ∈ l, th ∉ y.q := fun y hy hq => h2 (by
  unfold waitsR
  exact List.any_eq_true.2 ⟨y, hy, List.any_eq_true.2 ⟨th, hq, by simp⟩⟩)
 rw [h.cp.fnd]
 cases hf : findR l o with
 | none =>
  have hno : ∀ y ∈ l, y.o ≠ o := fun y hy e => by
   obtain ⟨m, hm⟩ := findR_mem ⟨y, hy, e⟩
   rw [hf] at hm; cases hm
  refine ⟨rfl, T + 1, ⟨h.cp.fresh hno ⟨by omega, ho⟩ (by omega) (by omega), by rw [sumQ_perm (insR_perm l ⟨o, th, 1, (T : Int), []⟩), sumQ_cons]; simp only [List.length_nil]; omega, fun m hm => ?_, ?_⟩, wrapT (by omega)⟩
  ·rcases insR_mem.1 hm with rfl | hm
   ·exact ⟨Int.le_refl 1, by show (1 : Int) ≤ ((N + 1 : Nat) : Int); omega, Nat.zero_le _⟩
   ·have := h.nb m hm; omega
  ·have := (insR_perm l ⟨o, th, 1, (T : Int), []⟩).length_eq
   have := h.ln
   simp only [List.length_cons] at *
   omega
 | some m =>
  obtain ⟨hm, hmo⟩ := findR_some hf
  subst hmo
  simp only [Option.map_some]
  have hb := h.nb m hm
  by_cases hw : m.w = th
  ·rw [if_pos (show (pl m).1 = th from hw), if_pos hw]
   have hwr : IntKind.wrap .i64 (m.n + 1) = m.n + 1 := wrap64 (by omega) (by omega)
   have hsq := sumQ_upd h.cp.nod hm (m' := ⟨m.o, m.w, IntKind.wrap .i64 (m.n + 1), m.s, m.q⟩) rfl
   simp only at hsq
   refine ⟨rfl, T, ⟨?_, by simp only; omega, fun y hy => ?_, by rw [updR_len]; have := h.ln; omega⟩, rfl⟩
   ·have := h.cp.tell hm (IntKind.wrap .i64 (m.n + 1))
    exact this
   ·rcases updR_mem hy with ⟨rfl, _⟩ | ⟨hy, _⟩
    ·refine ⟨?_, ?_, by show m.q.length ≤ N + 1; omega⟩
     ·show 1 ≤ IntKind.wrap .i64 (m.n + 1); rw [hwr]; omega
     ·show IntKind.wrap .i64 (m.n + 1) ≤ ((N + 1 : Nat) : Int); rw [hwr]; omega
    ·have := h.nb y hy; omega
  ·rw [if_neg (show ¬ (pl m).1 = th from hw), if_neg hw]
   have hsq := sumQ_upd h.cp.nod hm (m' := ⟨m.o, m.w, m.n, m.s, m.q ++ [th]⟩) rfl
   simp only [List.length_append, List.length_cons, List.length_nil] at hsq
   refine ⟨rfl, T, ⟨h.cp.line hm (by omega) hnq, by simp only; omega, fun y hy => ?_, by rw [updR_len]; have := h.ln; omega⟩, rfl⟩
   rcases updR_mem hy with ⟨rfl, _⟩ | ⟨hy, _⟩
   ·refine ⟨hb.1, by show m.n ≤ ((N + 1 : Nat) : Int); omega, ?_⟩
    show (m.q ++ [th]).length ≤ N + 1
    simp; omega
   ·have := h.nb y hy; omega

theorem next_nb (hm : m ∈ l) (h : ∀ y ∈ l, y.o ≠ m.o → 1 ≤ y.n ∧ y.n ≤ (N : Int) ∧ y.q.length ≤ N) (hq : m.q.length ≤ N) (hN : 1 ≤ N) (t : Int) : ∀ y ∈ (nextS l m t).2.1, 1 ≤ y.n ∧ y.n ≤ (N : Int) ∧ y.q.length ≤ N := by
 intro y hy
 unfold nextS at hy
 cases hc : m.q with
 | nil =>
  rw [hc] at hy
  obtain ⟨a, b⟩ := List.mem_filter.1 hy
  exact h y a (by simpa using b)
 | cons x q =>
  rw [hc] at hy hq
  rcases updR_mem hy with ⟨rfl, _⟩ | ⟨hy, hne⟩
  ·refine ⟨Int.le_refl 1, by show (1 : Int) ≤ _; omega, ?_⟩
   simp only [List.length_cons] at hq
   show q.length ≤ N
   omega
  ·exact h y hy hne

theorem Cb.exit (h : Cb p l T N) (hN : N ≤ 999) : (exitP p o th).1 = (exitS l (T : Int) o th).1 ∧ ∃ T', Cb (exitP p o th).2 (exitS l (T : Int) o th).2.1 T' (N + 1) ∧ (exitS l (T : Int) o th).2.2 = (T' : Int) := by
 have hT := h.wt
 have same : Cb p l T (N + 1) := ⟨h.cp, by omega, fun m hm => by have := h.nb m hm; omega, by have := h.ln; omega⟩
 unfold exitP exitS
 by_cases h1 : o < 1 ∨ th < 1
 ·rw [if_pos h1, if_pos h1]; exact ⟨rfl, T, same, rfl⟩
 rw [if_neg h1, if_neg h1, h.cp.fnd]
 cases hf : findR l o with
 | none => exact ⟨rfl, T, same, rfl⟩
 | some m =>
  obtain ⟨hm, hmo⟩ := findR_some hf
  subst hmo
  simp only [Option.map_some]
  have hb := h.nb m hm
  by_cases hw : m.w ≠ th
  ·rw [if_pos (show (pl m).1 ≠ th from hw), if_pos hw]; exact ⟨rfl, T, same, rfl⟩
  rw [if_neg (show ¬ (pl m).1 ≠ th from hw), if_neg hw]
  have hwr : IntKind.wrap .i64 (m.n - 1) = m.n - 1 := wrap64 (by omega) (by omega)
  have tl := h.cp.tell hm (IntKind.wrap .i64 (m.n - 1))
  have e0 : IntKind.wrap .i64 ((pl m).2.1 - 1) = IntKind.wrap .i64 (m.n - 1) := rfl
  have hsq := sumQ_upd h.cp.nod hm (m' := ⟨m.o, m.w, IntKind.wrap .i64 (m.n - 1), m.s, m.q⟩) rfl
  simp only at hsq
  have hex : ∃ z ∈ l, z.o = (⟨m.o, m.w, IntKind.wrap .i64 (m.n - 1), m.s, m.q⟩ : RM).o := ⟨m, hm, rfl⟩
  by_cases h2 : IntKind.wrap .i64 (m.n - 1) > 0
  ·rw [if_pos (show IntKind.wrap .i64 ((pl m).2.1 - 1) > 0 from h2), if_pos h2]
   refine ⟨rfl, T, ⟨tl, by simp only; omega, fun y hy => ?_, by rw [updR_len]; have := h.ln; omega⟩, rfl⟩
   rcases updR_mem hy with ⟨rfl, _⟩ | ⟨hy, _⟩
   ·refine ⟨?_, ?_, by show m.q.length ≤ N + 1; omega⟩
    ·show 1 ≤ IntKind.wrap .i64 (m.n - 1); omega
    ·show IntKind.wrap .i64 (m.n - 1) ≤ ((N + 1 : Nat) : Int); omega
   ·have := h.nb y hy; omega
  ·rw [if_neg (show ¬ IntKind.wrap .i64 ((pl m).2.1 - 1) > 0 from h2), if_neg h2]
   obtain ⟨k1, T', k2, k3, k4, k5⟩ := tl.next (updR_self hex) (by omega)
   have k1 : (nextP { p with es := updK p.es m.o ((pl m).1, IntKind.wrap .i64 ((pl m).2.1 - 1), (pl m).2.2) } m.o).1 = _ := k1
   have hsn := sumQ_next tl.nod (updR_self hex) (t := (T : Int))
   refine ⟨by rw [k1], T', ⟨k4, by simp only; omega, ?_, ?_⟩, k5⟩
   ·refine next_nb (updR_self hex) (fun y hy hne => ?_) (by show m.q.length ≤ N + 1; omega) (by omega) _
    rcases updR_mem hy with ⟨rfl, _⟩ | ⟨hy, _⟩
    ·exact absurd rfl hne
    ·have := h.nb y hy; omega
   ·have h3 := nextS_len (l := updR l ⟨m.o, m.w, IntKind.wrap .i64 (m.n - 1), m.s, m.q⟩) (m := ⟨m.o, m.w, IntKind.wrap .i64 (m.n - 1), m.s, m.q⟩) (t := (T : Int))
    rw [updR_len] at h3
    have := h.ln
    simp only
    omega

end Go.Proofs.Ytefpoodhdfggdaa.AB

namespace Go.Proofs.Ytefpoodhdfggdaa.AB
open Go

def ownP (p : PD) (o : Int) : Int := match mfind (eqN o) p.es with
 | some l => l.1
 | none => 0
def sinceP (p : PD) (o : Int) : Int := match mfind (eqN o) p.es with
 | some l => l.2.2.1
 | none => 0

def HeldIs (args : List TV) (hp : Hp) (l : List Int) : Prop :=
 ∃ X t d, args = [.ref (some t) cT 0 []] ∧ hpX hp = some X ∧ MRep X t d ∧ (∀ e ∈ d.p.es, -9223372036854775808 ≤ e.1 ∧ e.1 ≤ 9223372036854775807) ∧ d.p.es.length < 2000000 ∧ l = heldP d.p

def zHeld : ZRule := fun args s K => ∃ l : List Int, HeldIs args s.hp l ∧ K (.arr s.hp.length 0 0 l.length) (s.addO (.arr 0 (.int .i64) l fun _ => .no))

def DelIs (cl : TV) (hp : Hp) (l l2 : List Int) : Prop :=
 ∃ X t d b0 b1 th, cl = .clo 69 [.ref (some b0) (.ref cT) 0 [], .ref (some b1) cN 0 []] ∧ hpX hp = some X ∧ MRep X t d ∧ Box X (.ref cT) b0 (some t) ∧ Box X cN b1 th ∧ l.length ≤ 2000000 ∧
  (∀ o ∈ l, ∃ q, mfind (eqN o) d.p.es = some q) ∧ l2 = l.filter fun o => decide (ownP d.p o = th)

def zDel : ZRule := fun args s K => match args with
 | [.arr i g off len, cl] => match off, s.hp.getD i none with
  | 0, some (.arr g' (.int .i64) l ts) => g = g' ∧ len = l.length ∧ ∃ l2 : List Int, DelIs cl s.hp l l2 ∧ K (.arr i g 0 l2.length) (s.setO i (.arr g' (.int .i64) l2 ts))
  | _, _ => False
 | _ => False

def SortIs (cl : TV) (hp : Hp) (l l2 : List Int) : Prop :=
 ∃ X t d b0, cl = .clo 71 [.ref (some b0) (.ref cT) 0 []] ∧ hpX hp = some X ∧ MRep X t d ∧ Box X (.ref cT) b0 (some t) ∧ l.length ≤ 2000000 ∧
  (∀ o ∈ l, ∃ q, mfind (eqN o) d.p.es = some q) ∧ (∀ e ∈ d.p.es, 0 ≤ e.2.2.2.1 ∧ e.2.2.2.1 ≤ 1000000) ∧ (∀ e ∈ d.p.es, ∀ e' ∈ d.p.es, e.2.2.2.1 = e'.2.2.2.1 → e.1 = e'.1) ∧
  l2 = l.mergeSort fun a b => decide (sinceP d.p a ≤ sinceP d.p b)

def zSort : ZRule := fun args s K => match args with
 | [.arr i g off len, cl] => match off, s.hp.getD i none with
  | 0, some (.arr g' (.int .i64) l ts) => g = g' ∧ len = l.length ∧ ∃ l2 : List Int, SortIs cl s.hp l l2 ∧ K (.v (.tup [])) (s.setO i (.arr g' (.int .i64) l2 ts))
  | _, _ => False
 | _ => False

def Z36z (f : FuncId) : Option ZRule :=
 match Nat.beq f 42, Nat.beq f 68, Nat.beq f 70 with
 | true, _, _ => some zHeld
 | _, true, _ => some zDel
 | _, _, true => some zSort
 | _, _, _ => none

end Go.Proofs.Ytefpoodhdfggdaa.AB

namespace Go.Proofs.Ytefpoodhdfggdaa.AB
open Go Go.RowKit

structure Seen (W : World) (B0 bt r : Nat) (d : MD) : Prop where
 c0 : W.cell? ⟨B0, 0, none⟩ = some (.pointer (some ⟨bt, 0, none⟩))
 ct : W.cell? ⟨bt, 0, none⟩ = some (.map (some r))
 lk : ∀ o l, mfind (eqN o) d.p.es = some l → ∃ bl, (∀ n, (Instr.lookup 89 (.map (some r)) (.int .i64 o) false).run Try.prog (W.drewN n) = .ok (.pointer (some ⟨bl, 0, none⟩)) (W.drewN n)) ∧
  W.cell? ⟨bl, 0, none⟩ = some (.int .i64 l.1) ∧ W.cell? ⟨bl, 2, none⟩ = some (.int .i64 l.2.2.1)

section
variable {Mine : Mn} {G : Gh} {hp : Hp} {T : Toks} {w : World} {X : XH} {t : Nat} {d : MD}

theorem owns_at {k b sz ct : Nat} {o : XO} (h : X.at k = some o) (hl : G.loc 0 k = some (some b, sz, ct)) : Owns G 0 (.heap X) b :=
 ⟨k, sz, ct, by rw [show O.has (.heap X) k = (X.f k ≠ none) from rfl, (at_get h).1]; simp, hl⟩

theorem seen_of (hi : Inv Mine G hp T w) (h0 : hp[0]? = some (some (.heap X))) (h : MRep X t d) {b0 : Nat} (hb : Box X (.ref cT) b0 (some t)) {v0 : Value}
  (hv : TR G (.ref (some b0) (.ref cT) 0 []) v0) : ∃ B0 bt r, v0 = .pointer (some ⟨B0, 0, none⟩) ∧ ∀ W : World, (∀ b, Owns G 0 (.heap X) b → W.heap[b]? = w.heap[b]?) → Seen W B0 bt r d := by
 cases hv with
 | ref _ _ _ _ B0 ct0 hl0 hp0 =>
 obtain ⟨b', h1, h2, h3, cur, el, h4, h5, h6⟩ := hi.xarr h0 hb.arr
 rw [hl0] at h1; cases h1
 obtain ⟨u0, q1, q2, q3⟩ := h6 0 _ rfl 0 (.ref (some t) cT 0 []) rfl
 cases q2 with
 | ref _ _ _ _ bt ctt hlt hpt =>
 obtain ⟨b1, k1, k2, k3, cur1, el1, k4, k5, k6⟩ := hi.xarr h0 h.box.arr
 rw [hlt] at k1; cases k1
 obtain ⟨u1, r1, r2, r3⟩ := k6 0 _ rfl 0 (.mp (.int .i64) (.ref cL) (some d.hH)) rfl
 cases r2 with
 | mp _ _ _ r sz ctm hlm =>
 obtain ⟨r', sz', ct'', g1, g2, g3, ents, ck, g4, g5, g6, g7⟩ := hi.xmp h0 (mp_at.2 h.mh)
 rw [hlm] at g1; cases g1
 refine ⟨B0, bt, r, rfl, fun W hW => ⟨?_, ?_, fun o l ho => ?_⟩⟩
 ·rw [cell_of_block ((hW _ (owns_at hb hl0)).trans h4)]
  exact q1
 ·rw [cell_of_block ((hW _ (owns_at h.box hlt)).trans k4)]
  exact r1
 ·have hf : mfind (Cd.keq (.int .i64) o) d.hes = some (some (d.h o)) := by
   have : mfind (eqN o) d.hes = some (some (d.h o)) := by rw [h.find, ho]; rfl
   exact this
  obtain ⟨v, hv, hr⟩ := xlook_run (G := G) (R := fun p v => TR G ((Xd.ref cL).enc p) v) tt_ok (t := 89) (kc := .int .i64) (es := d.hes) (e := (match (tt.at 89).k with | .map _ e => e | _ => 0)) (by kernel_rfl) g5 g6 hf
  have hv : TR G (.ref (some (d.h o)) cL 0 []) v := hv
  have hlock := (h.lbox ho).1
  cases hv with
  | ref _ _ _ _ bl ctl hll hpl =>
  obtain ⟨b2, m1, m2, m3, cur2, el2, m4, m5, m6⟩ := hi.xarr h0 hlock.arr
  rw [hll] at m1; cases m1
  obtain ⟨u2, n1, n2, n3⟩ := m6 0 _ rfl 0 (.v (.int .i64 l.1)) rfl
  obtain ⟨u3, n4, n5, n6⟩ := m6 0 _ rfl 2 (.v (.int .i64 l.2.2.1)) rfl
  cases n2 with | v _ _ n2 =>
  cases n2
  cases n5 with | v _ _ n5 =>
  cases n5
  have hWl := (hW _ (owns_at hlock hll)).trans m4
  refine ⟨bl, fun n => hr (W.drewN n) ((hW r (owns_at h.mh hlm)).trans g4), ?_, ?_⟩
  ·rw [cell_of_block hWl]; exact n1
  ·rw [cell_of_block hWl]; exact n4
end

section
variable {W : World} {B0 bt r B1 : Nat} {d : MD} {th o : Int} {l : PL}

theorem walk69 (hs : Seen W B0 bt r d) (h1 : W.cell? ⟨B1, 0, none⟩ = some (.int .i64 th)) (ho : mfind (eqN o) d.p.es = some l) :
  Calls Try.prog 69 #[.int .i64 o, .pointer (some ⟨B0, 0, none⟩), .pointer (some ⟨B1, 0, none⟩)] W fun e w' => e = .returned (.bool (l.1 != th)) ∧ ∃ q, w' = W.drewN q := by
 obtain ⟨c0, ct, lk⟩ := hs
 obtain ⟨bl, hl, hc0, hc2⟩ := lk o l ho
 clear lk ho
 obtain ⟨l1, l2, l3, l4⟩ := l
 dsimp only at hc0 hc2 ⊢
 have mixed := mix
 go_enter Try.func69, Try.ntmps69
 go_wp2
 go_quiet (fail)
 go_wp2
 go_ret
 exact ⟨rfl, _, rfl⟩

theorem walk71 {o2 : Int} {l' : PL} (hs : Seen W B0 bt r d) (ho : mfind (eqN o) d.p.es = some l) (ho2 : mfind (eqN o2) d.p.es = some l') :
  Calls Try.prog 71 #[.int .i64 o, .int .i64 o2, .pointer (some ⟨B0, 0, none⟩)] W fun e w' => e = .returned (.int .i64 (RowKit.wrap64 (l.2.2.1 - l'.2.2.1))) ∧ ∃ q, w' = W.drewN q := by
 obtain ⟨c0, ct, lk⟩ := hs
 obtain ⟨bl, hl, hc0, hc2⟩ := lk o l ho
 obtain ⟨bl', hl', hc0', hc2'⟩ := lk o2 l' ho2
 clear lk ho ho2
 obtain ⟨l1, l2, l3, l4⟩ := l
 obtain ⟨m1, m2, m3, m4⟩ := l'
 dsimp only at hc0 hc2 hc0' hc2' ⊢
 have mixed := mix
 go_enter Try.func71, Try.ntmps71
 go_wp2
 go_quiet (fail)
 go_wp2
 go_ret
 exact ⟨rfl, _, rfl⟩

end
end Go.Proofs.Ytefpoodhdfggdaa.AB

namespace Go.Proofs.Ytefpoodhdfggdaa.AB
open Go Go.Proofs Go.RowKit Go.Sort Go.Shelf

def delL_ren : Ren :=
 {
 f := fun x =>
  match x with
  | 10 => 68
  | 6 => 87
  | n => n,
 t := fun x =>
  match x with
  | 22 => 22
  | 23 => 3
  | 25 => 48
  | 3 => 3
  | 4 => 4
  | 0 => 0
  | n => n,
 g := fun x =>
  x }

set_option maxRecDepth 100000 in
theorem delL : SlLaysH.n10 Try.prog delL_ren :=
 { mixed := by kernel_rfl, f6 := Exists.intro "slices.IndexFunc[[]int,int]" ⟨of_decide_eq_true (by kernel_rfl), Eq.trans Try.func87 (congrArg some (by kernel_rfl))⟩, f10 := Exists.intro "slices.DeleteFunc[[]int,int]" ⟨of_decide_eq_true (by kernel_rfl), Eq.trans Try.func68 (congrArg some (by kernel_rfl))⟩, t0 := Try.underlying0, a0 := Try.isAgg0, z0 := Try.sizeOf0, v0 := Try.zeroValue0, t3 := Try.underlying3, a3 := Try.isAgg3, z3 := Try.sizeOf3, v3 := Try.zeroValue3, t4 := Try.underlying4, a4 := Try.isAgg4, z4 := Try.sizeOf4, v4 := Try.zeroValue4, t22 := Try.underlying22, a22 := Try.isAgg22, z22 := Try.sizeOf22, v22 := Try.zeroValue22, a23 := Try.isAgg3, z23 := Try.sizeOf3, t25 := Try.underlying48, a25 := Try.isAgg48, z25 := Try.sizeOf48, v25 := Try.zeroValue48 }

end Go.Proofs.Ytefpoodhdfggdaa.AB

namespace Go.Proofs.Ytefpoodhdfggdaa.AB
open Go Go.Proofs Go.RowKit Go.Sort Go.Lib Go.Shelf

def encI (n : Int) : Value := .int .i64 n
theorem oneI : OneCell encI := fun _ => rfl

theorem att_get (d : Array Int) [Inhabited {x // x ∈ d.toList}] (j : Nat) (hj : j < d.size) : (d.toList.attach[j]!).1 = d[j]! := by
 have h1 : j < d.toList.attach.length := by simpa using hj
 rw [getElem!_pos d.toList.attach j h1, getElem!_pos d j hj]
 simp

section
variable {w : World} {blk cap g : Nat} {lb : Array Value} {d : Array Int} {p : Int → Bool}

theorem del_index (eg : ∀ args w, (callFunc g args).run Try.prog w = .ok (.enter g args) w)
  (hi : ∀ W, Go.RowKit.Below w.heap.size w W → ∀ x ∈ d.toList, FnGives Try.prog g lb #[encI x] (.bool (p x)) W)
  (hH : Holds encI w blk 0 d) (hsz : d.size ≤ 2000000) :
  Calls Try.prog 87 #[.slice (some ⟨blk, 0, none⟩) d.size cap, .func (.func g) #[] lb] w fun e w' => (∃ q, w' = w.drewN q) ∧
   ((e = .returned (.int .i64 (-1)) ∧ ∀ j, j < d.size → p d[j]! = false) ∨ ∃ k : Nat, k < d.size ∧ e = .returned (.int .i64 k) ∧ p d[k]! = true ∧ ∀ j, j < k → p d[j]! = false) := by
 by_cases h0 : d.size = 0
 ·have := AnyE.slices_IndexFunc_empty (P := Try.prog) (ρ := delL_ren) { delL with } (some ⟨blk, 0, none⟩) cap (.func (.func g) #[] lb) w
  rw [h0]
  refine Calls.mono this ?_
  rintro e w' ⟨rfl, rfl⟩
  exact ⟨⟨0, rfl⟩, .inl ⟨rfl, fun j hj => by omega⟩⟩
 ·have hmem : d[0]! ∈ d.toList := by
   rw [getElem!_pos d 0 (by omega)]
   simp
  let a0 : {x // x ∈ d.toList} := ⟨d[0]!, hmem⟩
  haveI : Inhabited {x // x ∈ d.toList} := ⟨a0⟩
  have hIF := AnyE.slices_IndexFunc (α := {x // x ∈ d.toList}) (P := Try.prog) (ρ := delL_ren) { delL with } (fun a => encI a.1) (fun a => p a.1) g lb eg blk 0 d.size cap d.toList.attach w
   (fun W x hb => hi W hb x.1 x.2) (by simp) (by omega) (fun j hj => by
    have hj' : j < d.size := by simpa using hj
    rw [(hH j hj').1, ← att_get d j hj'])
  rw [List.take_of_length_le (by simp)] at hIF
  refine Calls.mono hIF ?_
  rintro e w' ⟨rfl, hq⟩
  refine ⟨hq, ?_⟩
  rcases idxByFrom_spec (fun _ (y : {x // x ∈ d.toList}) => p y.1) default d.toList.attach 0 with ⟨e1, hall⟩ | ⟨k, hk, e1, ht, hall⟩
  ·refine .inl ⟨?_, fun j hj => ?_⟩
   ·show Ending.returned (.int .i64 (Lib.idxByFrom _ _ _ 0)) = _
    rw [e1]
   ·have := hall j (by simpa using hj)
    rw [← att_get d j hj]; exact this
  ·have hk' : k < d.size := by simpa using hk
   refine .inr ⟨k, hk', ?_, ?_, fun j hj => ?_⟩
   ·show Ending.returned (.int .i64 (Lib.idxByFrom _ _ _ 0)) = _
    rw [e1, Nat.zero_add]
   ·rw [← att_get d k hk']; exact ht
   ·rw [← att_get d j (by omega)]; exact hall j hj

theorem walk68 (eg : ∀ args w, (callFunc g args).run Try.prog w = .ok (.enter g args) w)
  (hi : ∀ W, Go.RowKit.Below w.heap.size w W → ∀ x ∈ d.toList, FnGives Try.prog g lb #[encI x] (.bool (p x)) W)
  (ho : ∀ (n : Nat) (dk : Array Int), dk.size = d.size → ∀ x ∈ d.toList, FnGives Try.prog g lb #[encI x] (.bool (p x)) (putRow encI (Sort.ahead w n) blk 0 dk))
  (hH : Holds encI w blk 0 d) (hsz : d.size ≤ 2000000) (hcap : d.size ≤ cap) :
  Calls Try.prog 68 #[.slice (some ⟨blk, 0, none⟩) d.size cap, .func (.func g) #[] lb] w fun e w' =>
   e = .returned (.slice (some ⟨blk, 0, none⟩) (d.toList.filter fun x => !p x).length cap) ∧ ∃ (q : Nat) (r : List Int), r.length = d.size - (d.toList.filter fun x => !p x).length ∧
    w' = putRow encI (Sort.ahead w q) blk 0 ((d.toList.filter fun x => !p x) ++ r).toArray := by
 have hIF := del_index (cap := cap) eg hi hH hsz
 obtain ⟨kp, HK⟩ : ∃ kp : Nat → Bool, Hid (kp = fun j => !p d[j]!) := ⟨_, rfl⟩
 have hfil : (d.toList.filter fun x => !p x) = keptUpTo kp d d.size := by rw [HK.out]; exact (keptUpTo_filter (fun x => !p x) d).symm
 rw [hfil]
 have mixed := mix
 have e87 : ∀ args w, (callFunc 87 args).run Try.prog w = .ok (.enter 87 args) w := enters_of Try.func87 (by kernel_rfl) rfl
 clear hi
 have HO : Aside _ := ho
 have HH : Aside (Holds encI w blk 0 d) := hH
 have HF : Aside _ := hfil
 clear ho hH hfil
 have hne1 : ∀ k : Nat, ((k : Int) == -1) = false := fun k => beq_eq_false_iff_ne.2 (by omega)
 have hst := oneI.store Try.prog
 have hcl0 := oneI.cells
 simp only [Value.cells] at hcl0
 have v3 : ∀ w, (zeroValue 3).run Try.prog w = .ok (encI 0) w := Try.zeroValue3
 go_enter Try.func68, Try.ntmps68
 go_wp2_with (go_at_fn 87; refine hIF.mono ?_; rintro e w' ⟨⟨q0, rfl⟩, ⟨rfl, hall⟩ | ⟨k0, hk0, rfl, ht, hall⟩⟩)
 ·go_ret
  have e3 : keptUpTo kp d d.size = d.toList := by
   rw [keptUpTo_all kp d _ (fun j hj => by rw [HK.out]; show (!p d[j]!) = true; rw [hall j hj]; rfl), range_map_get]
  rw [e3]
  refine ⟨by simp, q0, [], by simp, ?_⟩
  simp only [List.append_nil, Array.toArray_toList]
  exact (putRow_self encI (Sort.ahead w q0) blk 0 d (holds_ahead encI w q0 blk 0 d HH.out)).symm
 ·have hkeep : ∀ j, j < k0 → kp j = true := fun j hj => by rw [HK.out]; show (!p d[j]!) = true; rw [hall j hj]; rfl
  have hdrop : kp k0 = false := by rw [HK.out]; show (!p d[k0]!) = false; rw [ht]; rfl
  clear hall ht hIF
  have hne := hne1 k0
  go_wp2
  go_loopg [5, 6, 7] d.size (fun gg s5 s6 _ wr => ∃ (i j q : Nat) (dk : Array Int), s5 = .int .i64 i ∧ s6 = .int .i64 j ∧ j ≤ d.size ∧ d.size - j ≤ gg ∧ wr = putRow encI (Sort.ahead w q) blk 0 dk ∧ Aside (KeptInv kp d j i dk))
  case atStart => exact ⟨k0, k0 + 1, q0, d, rfl, by go_num, by omega, by omega, (putRow_self encI (Sort.ahead w q0) blk 0 d (holds_ahead encI w q0 blk 0 d HH.out)).symm, KeptInv.start hkeep hdrop⟩
  case round =>
   obtain ⟨i, j, q, dk, rfl, rfl, hjd, hgg, hwr, I2⟩ := hrel
   have hI := I2.out
   have hij := hI.lt
   have hds := hI.size
   have hHk : Holds encI wr blk 0 dk := by rw [hwr]; exact holds_putRow encI _ blk 0 d dk (holds_ahead encI w q blk 0 d HH.out) hds
   have W2 : Aside (wr = putRow encI (Sort.ahead w q) blk 0 dk) := hwr
   by_cases hlt : j < d.size
   ·have hltz : (j : Int) < (d.size : Int) := by omega
    obtain ⟨cj, _⟩ := hHk j (by omega)
    obtain ⟨ci, fi⟩ := hHk i (by omega)
    rw [hI.high j (by omega)] at cj
    have hmem : d[j]! ∈ d.toList := by rw [getElem!_pos d j hlt]; simp
    have hcall : Calls Try.prog g (#[encI d[j]!] ++ lb) wr fun e w' => e = .returned (.bool (p d[j]!)) ∧ ∃ qq, w' = wr.drewN qq := by rw [hwr]; exact HO.out q dk hds _ hmem
    clear hHk hI hwr hmem
    generalize hu : d[j]! = u at cj hcall
    generalize dk[i]! = old at ci
    have C : Aside (d[j]! = u) := hu
    clear hu
    simp only [Nat.zero_add] at cj ci fi
    cases hq : p u with
    | false =>
     rw [hq] at hcall
     go_wp2_with (go_at_fn g; refine hcall.mono ?_; rintro e w' ⟨rfl, qq, rfl⟩)
     go_roundg (d.size - (j + 1))
     case measure => omega
     case rel =>
      refine ⟨i + 1, j + 1, q + qq, dk.setIfInBounds i u, by go_num, by go_num, by omega, Nat.le_refl _, ?_, (show Aside _ from ?_)⟩
      ·have := putRow_set encI (Sort.ahead w (q + qq)) blk 0 dk i u (by omega)
       rw [Nat.zero_add] at this
       rw [W2.out, show (putRow encI (Sort.ahead w q) blk 0 dk).drewN qq = putRow encI (Sort.ahead w (q + qq)) blk 0 dk from putRow_drewN _ _ _ _ _ _ _]
       exact this
      ·have := I2.out.keep hlt (by rw [HK.out]; show (!p d[j]!) = true; rw [C.out, hq]; rfl)
       rwa [C.out] at this
    | true =>
     rw [hq] at hcall
     go_wp2_with (go_at_fn g; refine hcall.mono ?_; rintro e w' ⟨rfl, qq, rfl⟩)
     go_roundg (d.size - (j + 1))
     case measure => omega
     case rel => exact ⟨i, j + 1, q + qq, dk, rfl, by go_num, by omega, Nat.le_refl _, by rw [W2.out]; exact putRow_drewN _ _ _ _ _ _ _, I2.out.skip (by rw [HK.out]; show (!p d[j]!) = false; rw [C.out, hq]; rfl)⟩
   ·obtain rfl : j = d.size := by omega
    have hltz : ¬ (d.size : Int) < (d.size : Int) := by omega
    have hcl : ∀ ty, (Builtin.clear_ #[22] ty #[.slice (some ⟨blk, i, none⟩) (d.size - i) (cap - i)]).run Try.prog wr = .ok (.tuple #[]) (wr.setCells blk i (List.replicate (d.size - i) (encI 0))) :=
     fun ty => Lib.run_clear_slice wr _ _ ty _ Try.underlying22 v3 (oneI.cells 0) (oneI 0) blk i _ _ (by omega) (fun t ht => by have := (hHk (i + t) (by omega)).1; rw [Nat.zero_add] at this; rw [this]; rfl) (fun t ht => by have := (hHk (i + t) (by omega)).2; rw [Nat.zero_add] at this; exact this)
    clear hHk hI hwr
    go_wp2
    go_ret
    have hI := I2.out
    refine ⟨by rw [hI.len]; rfl, q, List.replicate (d.size - i) 0, by rw [List.length_replicate, hI.len], ?_⟩
    have := putRow_setCells encI (Sort.ahead w q) blk 0 (List.replicate (d.size - i) 0) dk i (by simp; omega)
    rw [Nat.zero_add, List.map_replicate] at this
    rw [← hI.done 0, ← this, ← W2.out]

end
end Go.Proofs.Ytefpoodhdfggdaa.AB

namespace Go.Proofs.Ytefpoodhdfggdaa.AB
open Go Go.Proofs Go.RowKit Go.Sort Go.Lib Go.Shelf

section
variable {Mine : Mn} {G : Gh} {hp : Hp} {T : Toks} {w W : World}

theorem Inv.grownZ (h : Inv Mine G hp T w) (hs : w.heap.size ≤ W.heap.size) (hb : ∀ k, k < w.heap.size → W.heap[k]? = w.heap[k]?) : Inv Mine G hp T W := by
 refine ⟨fun b o v hc => ?_, fun r es hc => ?_, fun i o hi => (h.objs i o hi).keep h.lb (.refl _) (.refl _ _) (fun b hb' => ⟨hb b ((h.objs i o hi).blk hb').2.2, id⟩), h.inj, fun t ht => ?_, h.tobj, h.tinj, h.lb, h.gens, h.tfin,
  fun b hb' => h.mine b (Nat.le_trans hs hb'), h.old⟩
 ·rw [cell_of_heap (w := w) (by exact hb b (h.cell_lt hc))]
  exact h.cells b o v hc
 ·rw [hb r (h.mp_lt (r := r) (e := es) hc)]
  exact h.mps r es hc
 ·obtain ⟨bo, e, c, h1, h2⟩ := h.toks t ht
  refine ⟨bo, e, c, h1, fun b hb' => ?_⟩
  obtain ⟨k1, ⟨cur, el, k2, k3⟩, k4⟩ := h2 b hb'
  exact ⟨k1, ⟨cur, el, by rw [hb b (heap_lt k2)]; exact k2, k3⟩, k4⟩

theorem putRow_other {α : Type} [Inhabited α] {enc : α → Value} {blk off k : Nat} {d : Array α} (h : k ≠ blk) : (putRow enc w blk off d).heap[k]? = w.heap[k]? := by
 simp only [putRow, mapBlock, Array.getElem?_modify]
 rw [if_neg (fun e => h e.symm)]

theorem putRow_at {α : Type} [Inhabited α] {enc : α → Value} {blk off : Nat} {d : Array α} {cur : Array Value} {el : TypeId} {f} (h : w.heap[blk]? = some (.cells cur el f)) :
  (putRow enc w blk off d).heap[blk]? = some (.cells (putCells enc off d cur) el f) := by
 simp only [putRow, mapBlock, Array.getElem?_modify, h, if_true, Option.map_some, onCells]

theorem putRow_size {α : Type} [Inhabited α] {enc : α → Value} {blk off : Nat} {d : Array α} : (putRow enc w blk off d).heap.size = w.heap.size := by
 simp [putRow, mapBlock]

theorem nl_cells (x : Int) (t : Tok) (j : Nat) (y : V) (h : ((Cd.int .i64).encT x t).cells[j]? = some y) : j = 0 ∧ y = .int .i64 x := by
 have h : ([V.int .i64 x])[j]? = some y := h
 match j, h with
 | 0, h => cases h; exact ⟨rfl, rfl⟩
 | j + 1, h => simp at h

structure RowAt (Mine : Mn) (G : Gh) (hp : Hp) (w : World) (i g : Nat) (l : List Int) (ts : Nat → Tok) (b ct : Nat) : Prop where
 obj : hp[i]? = some (some (.arr g (.int .i64) l ts))
 loc : G.loc i g = some (some b, 1, ct)
 len : l.length ≤ ct
 holds : Holds encI w b 0 l.toArray

theorem row_of (hi : Inv Mine G hp T w) {i g : Nat} {l : List Int} {ts : Nat → Tok} (ho : hp[i]? = some (some (.arr g (.int .i64) l ts))) {b sz ct : Nat} (hl : G.loc i g = some (some b, sz, ct)) :
  sz = 1 ∧ RowAt Mine G hp w i g l ts b ct := by
 obtain ⟨bo, ct', h1, h2, h3⟩ := hi.objs i _ ho
 have h1 : G.loc i g = some (bo, 1, ct') := h1
 rw [hl] at h1; cases h1
 obtain ⟨k1, k2, cur, el, k3, k4, k5⟩ := h3
 refine ⟨rfl, ho, hl, h2, fun j hj => ?_⟩
 have hj' : j < l.length := by simpa using hj
 obtain ⟨u, q1, q2, q3⟩ := k5 j l[j] (List.getElem?_eq_getElem hj') 0 (.int .i64 l[j]) rfl
 cases q2
 have q1 : cur[j]? = some (.int .i64 l[j]) := by simpa [show (Cd.int .i64).sz = 1 from rfl] using q1
 refine ⟨?_, ?_⟩
 ·rw [cell_of_block k3, Nat.zero_add, q1, getElem!_pos l.toArray j hj]
  simp [encI]
 ·simp [World.frozen?, k3]

theorem RowAt.put {i g b ct : Nat} {l l2 : List Int} {ts : Nat → Tok} (h : RowAt Mine G hp w i g l ts b ct) (hi : Inv Mine G hp T w) (q : Nat) (dk : Array Int) (h1 : dk.size = l.length) (h2 : dk.toList.take l2.length = l2) :
  Inv Mine G (hp.set i (some (.arr g (.int .i64) l2 ts))) T (putRow encI (Sort.ahead w q) b 0 dk) ∧ Stp Mine w (putRow encI (Sort.ahead w q) b 0 dk) := by
 obtain ⟨bo, ct', k1, k2, k3⟩ := hi.objs i _ h.obj
 have k1 : G.loc i g = some (bo, 1, ct') := k1
 rw [h.loc] at k1; cases k1
 obtain ⟨k4, k5, cur, el, k6, k7, k8⟩ := k3
 have hst : Stp Mine w (putRow encI (Sort.ahead w q) b 0 dk) := by
  refine ⟨rfl, rfl, rfl, by rw [putRow_size]; exact Nat.le_refl _, fun k hk => ?_⟩
  exact (putRow_other (w := Sort.ahead w q) (fun e => hk (e ▸ k4)))
 have hle : l2.length ≤ l.length := by
  rw [← h2]
  simp only [List.length_take, Array.length_toList]
  omega
 have hld : l2.length ≤ dk.size := by omega
 refine ⟨hi.setObj i _ _ h.obj rfl (fun g hg => hg) b ⟨g, 1, ct, rfl, h.loc⟩ hst (fun k hk => putRow_other (w := Sort.ahead w q) hk) ⟨some b, ct, h.loc, Nat.le_trans hle h.len, k4, k5, putCells encI 0 dk cur, el,
  putRow_at (w := Sort.ahead w q) k6, by simp only [putCells, Array.size_mapIdx]; exact k7, fun e x hx j y hy => ?_⟩, hst⟩
 obtain ⟨rfl, rfl⟩ := nl_cells x _ j y hy
 have he : e < l2.length := (List.getElem?_eq_some_iff.1 hx).1
 have hlen := h.len
 have hcs : e < cur.size := by rw [k7]; show e < ct * 1; omega
 refine ⟨.int .i64 x, ?_, .int _ _, rfl⟩
 show (putCells encI 0 dk cur)[e * 1 + 0]? = _
 rw [Nat.mul_one, Nat.add_zero]
 simp only [putCells, Array.getElem?_mapIdx, Array.getElem?_eq_getElem hcs, Option.map_some]
 rw [if_pos ⟨Nat.zero_le _, by omega⟩]
 have hd : dk[e]! = x := by
  have : (dk.toList.take l2.length)[e]? = some x := by rw [h2]; exact hx
  rw [List.getElem?_take, if_pos he] at this
  rw [getElem!_pos dk e (by omega)]
  simpa [Array.getElem?_eq_getElem (show e < dk.size by omega)] using this
 simp only [Nat.sub_zero, hd, encI]

end
end Go.Proofs.Ytefpoodhdfggdaa.AB

namespace Go.Proofs.Ytefpoodhdfggdaa.AB
open Go Go.Proofs Go.RowKit Go.Sort Go.Lib Go.Shelf

section
variable {Mine : Mn} {G : Gh} {s : St} {w : World}

theorem getD_some {hp : Hp} {i : Nat} {o : O} (h : hp.getD i none = some o) : hp[i]? = some (some o) := by
 simp only [List.getD] at h
 cases hh : hp[i]? with
 | none => rw [hh] at h; cases h
 | some q => rw [hh] at h; simp only [Option.getD_some] at h; rw [h]

theorem vs2 {vs : Array Value} (h : 2 = vs.size) : ∃ a b, vs = #[a, b] :=
 ⟨vs[0]'(by omega), vs[1]'(by omega), by
  apply Array.ext
  ·simp; omega
  ·intro i h1 h2
   have : i = 0 ∨ i = 1 := by simp at h2; omega
   rcases this with rfl | rfl <;> rfl⟩

theorem walk68e (a : Option Addr) (cap : Nat) (fv : Value) (w : World) : Calls Try.prog 68 #[.slice a 0 cap, fv] w fun e w' => e = .returned (.slice a 0 cap) ∧ w' = w := by
 have hIF := AnyE.slices_IndexFunc_empty (P := Try.prog) (ρ := delL_ren) { delL with } a cap fv w
 have hIF : Calls Try.prog 87 #[.slice a 0 cap, fv] w fun e w' => e = .returned (.int .i64 (-1)) ∧ w' = w := hIF
 have mixed := mix
 have e87 : ∀ args w, (callFunc 87 args).run Try.prog w = .ok (.enter 87 args) w := enters_of Try.func87 (by kernel_rfl) rfl
 go_enter Try.func68, Try.ntmps68
 go_wp2_with (go_at_fn 87; refine hIF.mono ?_; rintro e w' ⟨rfl, rfl⟩)
 go_ret
 exact ⟨rfl, rfl⟩

theorem ent68 : Entered Try.prog 68 := ⟨Try.f68, Try.func68, by decide, rfl⟩
theorem ent70 : Entered Try.prog 70 := ⟨Try.f70, Try.func70, by decide, rfl⟩
theorem ent42 : Entered Try.prog 42 := ⟨Try.f42, Try.func42, by decide, rfl⟩

theorem RowAt.ne {X : XH} {T : Toks} {i g b ct : Nat} {l : List Int} {ts : Nat → Tok} (h : RowAt Mine G s.hp w i g l ts b ct) (hi : Inv Mine G s.hp T w) (h0 : s.hp[0]? = some (some (.heap X))) {k : Nat}
  (hk : Owns G 0 (.heap X) k) : k ≠ b := by
 rintro rfl
 have h0i : (0 : Nat) ≠ i := by
  rintro rfl
  have := h.obj
  rw [h0] at this; cases this
 exact hi.inj 0 i _ _ k h0i h0 h.obj hk ⟨g, 1, ct, rfl, h.loc⟩

theorem zDel_ok : ∀ args s K, zDel args s K → ∀ Mine G w (vs : Array Value), Inv Mine G s.hp s.T w → args.length = vs.size →
  (∀ (i : Nat) x y, args[i]? = some x → vs[i]? = some y → TR G x y) → Comes Try.prog 68 vs w (CallPost Mine G s w K) := by
 intro args s K h Mine G w vs hi hl hr
 unfold zDel at h
 split at h
 case h_2 => exact h.elim
 rename_i i g off len cl
 split at h
 case h_2 => exact h.elim
 rename_i g' l ts ho
 have ho := getD_some ho
 obtain ⟨rfl, rfl, l2, ⟨X, t, d, b0, b1, th, rfl, hX, hm, hb0, hb1, hll, hheld, hl2⟩, hk⟩ := h
 obtain ⟨u, c, rfl⟩ := vs2 hl
 have hu := hr 0 _ u rfl rfl
 have hc := hr 1 _ c rfl rfl
 have h0 := hpX_get hX
 refine .inl ⟨ent68, ?_⟩
 cases hc with | clo _ _ vs hvl hvs =>
 obtain ⟨v0, v1, rfl⟩ : ∃ v0 v1, vs = [v0, v1] := by
  match vs, hvl with
  | [a, b], _ => exact ⟨a, b, rfl⟩
 have hv0 := hvs 0 _ v0 rfl rfl
 have hv1 := hvs 1 _ v1 rfl rfl
 -- at no element
 have empty : ∀ (a : Option Addr) (cap : Nat), l = [] → TR G (.arr i g 0 0) (.slice a 0 cap) → Calls Try.prog 68 #[.slice a 0 cap, .func (.func 69) #[] #[v0, v1]] w (CallPost Mine G s w K) := by
  intro a cap hn ht
  subst hn
  have : l2 = [] := by rw [hl2]; rfl
  subst this
  refine (walk68e a cap _ w).mono ?_
  rintro e w' ⟨rfl, rfl⟩
  have hs : s.setO i (.arr g (.int .i64) [] ts) = s := by
   have hlt := (List.getElem?_eq_some_iff.1 ho).1
   have : s.hp.set i (some (.arr g (.int .i64) ([] : List Int) ts)) = s.hp := by
    apply List.ext_getElem?
    intro j
    rw [List.getElem?_set]
    split
    ·rename_i e; subst e; exact ho.symm
    ·rfl
   cases s
   simp only [St.setO] at this ⊢
   rw [this]
  rw [hs] at hk
  exact ⟨_, _, s, G, rfl, hk, ht, rfl, hi, .refl _, .refl _ _, Nat.le_refl _, .refl _ _⟩
 generalize hlen : l.length = len at hu
 cases hu with
 | arrNil _ _ sz ct hloc => exact empty none 0 (List.eq_nil_of_length_eq_zero hlen) (.arrNil i g sz ct hloc)
 | arr _ _ _ _ b sz ct cap o hloc h1 h2 h3 =>
 obtain ⟨rfl, hrow⟩ := row_of hi ho hloc
 subst hlen
 by_cases hn : l = []
 ·subst hn
  exact empty _ cap rfl (.arr i g 0 0 b 1 ct cap o hloc h1 h2 h3)
 have hpos : 0 < l.length := List.length_pos_iff.2 hn
 have ho0 : o = 0 := by have := h3 (by omega); omega
 subst ho0
 obtain ⟨B0, bt, r, rfl, hseen⟩ := seen_of hi h0 hm hb0 hv0
 cases hv1 with | ref _ _ _ _ B1 ct1 hl1 hp1 =>
 obtain ⟨b1', g1, g2, g3, cur1, el1, g4, g5, g6⟩ := hi.xarr h0 hb1.arr
 rw [hl1] at g1; cases g1
 obtain ⟨u1, e1, e2, e3⟩ := g6 0 _ rfl 0 (.v (.int .i64 th)) rfl
 cases e2 with | v _ _ e2 =>
 cases e2
 have e1 : cur1[0]? = some (.int .i64 th) := e1
 have own1 : Owns G 0 (.heap X) B1 := owns_at hb1 hl1
 -- what the closure says
 have give : ∀ W : World, (∀ k, Owns G 0 (.heap X) k → W.heap[k]? = w.heap[k]?) → ∀ x ∈ l, FnGives Try.prog 69 #[.pointer (some ⟨B0, 0, none⟩), .pointer (some ⟨B1, 0, none⟩)] #[encI x] (.bool (!decide (ownP d.p x = th))) W := by
  intro W hW x hx
  obtain ⟨q, hq⟩ := hheld x hx
  have := walk69 (hseen W hW) (B1 := B1) (th := th) (by rw [cell_of_block ((hW B1 own1).trans g4)]; exact e1) hq
  have hown : ownP d.p x = q.1 := by unfold ownP; rw [hq]
  have hb : (q.1 != th) = !decide (ownP d.p x = th) := by
   rw [hown]
   by_cases hh : q.1 = th <;> simp [hh]
  rw [hb] at this
  exact this
 have hcall := walk68 (w := w) (blk := b) (cap := cap) (g := 69) (lb := #[.pointer (some ⟨B0, 0, none⟩), .pointer (some ⟨B1, 0, none⟩)]) (d := l.toArray) (p := fun x => !decide (ownP d.p x = th))
  (enters_of Try.func69 (by kernel_rfl) rfl) (fun W hb x hx => give W (fun k hk => hb.block k ((hi.objs 0 _ h0).blk hk).2.2) x (by simpa using hx))
  (fun n dk hs x hx => give _ (fun k hk => putRow_other (w := Sort.ahead w n) (hrow.ne hi h0 hk)) x (by simpa using hx)) hrow.holds (by simpa using hll) (by simpa using h1)
 have hfil : (l.toArray.toList.filter fun x => !(!decide (ownP d.p x = th))) = l2 := by rw [hl2]; simp
 rw [hfil] at hcall
 have hsz : l.toArray.size = l.length := by simp
 rw [hsz] at hcall
 refine hcall.mono ?_
 rintro e w' ⟨rfl, q, r, hrl, rfl⟩
 have hle : l2.length ≤ l.length := by rw [hl2]; exact List.length_filter_le _ _
 obtain ⟨k1, k2⟩ := hrow.put (l2 := l2) hi q (l2 ++ r).toArray (by simp; omega) (by simp)
 exact ⟨_, _, s.setO i (.arr g (.int .i64) l2 ts), G, rfl, hk, .arr i g 0 l2.length b 1 ct cap 0 hloc (by omega) h2 (fun _ => by simp), rfl, k1, .refl _, .refl _ _, by simp [St.setO], k2⟩

end
end Go.Proofs.Ytefpoodhdfggdaa.AB

namespace Go.Proofs.Ytefpoodhdfggdaa.AB
open Go Go.Proofs Go.RowKit Go.Sort Go.Shelf

def sortFL_ren : Ren :=
 {
 f := fun x =>
  match x with
  | 6 => 70
  | 15 => 75
  | 14 => 88
  | 28 => 90
  | 29 => 91
  | 20 => 97
  | 21 => 98
  | 22 => 99
  | 23 => 100
  | 24 => 101
  | 25 => 102
  | 26 => 103
  | 27 => 104
  | 46 => 115
  | 47 => 116
  | 48 => 117
  | 49 => 118
  | 50 => 119
  | 57 => 125
  | n => n,
 t := fun x =>
  match x with
  | 22 => 22
  | 24 => 3
  | 25 => 24
  | 3 => 3
  | 39 => 108
  | 0 => 0
  | 53 => 119
  | 55 => 121
  | 4 => 4
  | 46 => 129
  | 45 => 128
  | 50 => 34
  | 5 => 5
  | 9 => 9
  | 66 => 140
  | 70 => 144
  | 76 => 149
  | 77 => 32
  | n => n,
 g := fun x =>
  x }

set_option maxRecDepth 100000 in
theorem sortFL : SlLaysF.n6 Try.prog sortFL_ren :=
 { mixed := by kernel_rfl, f6 := Exists.intro "slices.SortFunc[[]int,int]" ⟨of_decide_eq_true (by kernel_rfl), Eq.trans Try.func70 (congrArg some (by kernel_rfl))⟩, f14 := Exists.intro "slices.pdqsortCmpFunc[int]" ⟨of_decide_eq_true (by kernel_rfl), Eq.trans Try.func88 (congrArg some (by kernel_rfl))⟩, f15 := Eq.trans Try.func75 (congrArg some (by kernel_rfl)), f20 := Exists.intro "slices.insertionSortCmpFunc[int]" ⟨of_decide_eq_true (by kernel_rfl), Eq.trans Try.func97 (congrArg some (by kernel_rfl))⟩, f21 := Exists.intro "slices.heapSortCmpFunc[int]" ⟨of_decide_eq_true (by kernel_rfl), Eq.trans Try.func98 (congrArg some (by kernel_rfl))⟩, f22 := Exists.intro "slices.breakPatternsCmpFunc[int]" ⟨of_decide_eq_true (by kernel_rfl), Eq.trans Try.func99 (congrArg some (by kernel_rfl))⟩, f23 := Exists.intro "slices.choosePivotCmpFunc[int]" ⟨of_decide_eq_true (by kernel_rfl), Eq.trans Try.func100 (congrArg some (by kernel_rfl))⟩, f24 := Exists.intro "slices.reverseRangeCmpFunc[int]" ⟨of_decide_eq_true (by kernel_rfl), Eq.trans Try.func101 (congrArg some (by kernel_rfl))⟩, f25 := Exists.intro "slices.partialInsertionSortCmpFunc[int]" ⟨of_decide_eq_true (by kernel_rfl), Eq.trans Try.func102 (congrArg some (by kernel_rfl))⟩, f26 := Exists.intro "slices.partitionEqualCmpFunc[int]" ⟨of_decide_eq_true (by kernel_rfl), Eq.trans Try.func103 (congrArg some (by kernel_rfl))⟩, f27 := Exists.intro "slices.partitionCmpFunc[int]" ⟨of_decide_eq_true (by kernel_rfl), Eq.trans Try.func104 (congrArg some (by kernel_rfl))⟩, f28 := Eq.trans Try.func90 (congrArg some (by kernel_rfl)), f29 := Eq.trans Try.func91 (congrArg some (by kernel_rfl)), f46 := Exists.intro "slices.siftDownCmpFunc[int]" ⟨of_decide_eq_true (by kernel_rfl), Eq.trans Try.func115 (congrArg some (by kernel_rfl))⟩, f47 := Eq.trans Try.func116 (congrArg some (by kernel_rfl)), f48 := Eq.trans Try.func117 (congrArg some (by kernel_rfl)), f49 := Exists.intro "slices.medianAdjacentCmpFunc[int]" ⟨of_decide_eq_true (by kernel_rfl), Eq.trans Try.func118 (congrArg some (by kernel_rfl))⟩, f50 := Exists.intro "slices.medianCmpFunc[int]" ⟨of_decide_eq_true (by kernel_rfl), Eq.trans Try.func119 (congrArg some (by kernel_rfl))⟩, f57 := Exists.intro "slices.order2CmpFunc[int]" ⟨of_decide_eq_true (by kernel_rfl), Eq.trans Try.func125 (congrArg some (by kernel_rfl))⟩, t0 := Try.underlying0, a0 := Try.isAgg0, z0 := Try.sizeOf0, v0 := Try.zeroValue0, t3 := Try.underlying3, a3 := Try.isAgg3, z3 := Try.sizeOf3, v3 := Try.zeroValue3, t4 := Try.underlying4, a4 := Try.isAgg4, z4 := Try.sizeOf4, v4 := Try.zeroValue4, t5 := Try.underlying5, a5 := Try.isAgg5, z5 := Try.sizeOf5, v5 := Try.zeroValue5, t9 := Try.underlying9, a9 := Try.isAgg9, z9 := Try.sizeOf9, v9 := Try.zeroValue9, t22 := Try.underlying22, a22 := Try.isAgg22, z22 := Try.sizeOf22, v22 := Try.zeroValue22, a24 := Try.isAgg3, z24 := Try.sizeOf3, t25 := Try.underlying24, a25 := Try.isAgg24, z25 := Try.sizeOf24, v25 := Try.zeroValue24, t39 := Try.underlying108, a39 := Try.isAgg108, z39 := Try.sizeOf108, v39 := Try.zeroValue108, t45 := Try.underlying128, a45 := Try.isAgg128, z45 := Try.sizeOf128, v45 := Try.zeroValue128, t46 := Try.underlying129, a46 := Try.isAgg129, z46 := Try.sizeOf129, v46 := Try.zeroValue129, t50 := Try.underlying34, a50 := Try.isAgg34, z50 := Try.sizeOf34, v50 := Try.zeroValue34, t53 := Try.underlying119, a53 := Try.isAgg119, z53 := Try.sizeOf119, v53 := Try.zeroValue119, t55 := Try.underlying121, a55 := Try.isAgg121, z55 := Try.sizeOf121, v55 := Try.zeroValue121, t66 := Try.underlying140, a66 := Try.isAgg140, z66 := Try.sizeOf140, v66 := Try.zeroValue140, t70 := Try.underlying144, a70 := Try.isAgg144, z70 := Try.sizeOf144, v70 := Try.zeroValue144, t76 := Try.underlying149, a76 := Try.isAgg149, z76 := Try.sizeOf149, v76 := Try.zeroValue149, t77 := Try.underlying32, a77 := Try.isAgg32, z77 := Try.sizeOf32, v77 := Try.zeroValue32 }

end Go.Proofs.Ytefpoodhdfggdaa.AB

namespace Go.Proofs.Ytefpoodhdfggdaa.AB
open Go Go.Proofs Go.RowKit Go.Sort Go.Lib Go.Shelf

theorem putRow_map {α : Type} [Inhabited α] (f : α → Int) (w : World) (b : Nat) (d : Array α) : putRow (fun a => encI (f a)) w b 0 d = putRow encI w b 0 (d.map f) := by
 unfold putRow
 refine mapBlock_congr w b _ _ fun c e fr _ => ?_
 apply Array.ext_getElem?
 intro k
 simp only [putCells, Array.getElem?_mapIdx, Array.size_map]
 cases c[k]? with
 | none => rfl
 | some x =>
  simp only [Option.map_some]
  split
  ·rename_i h
   have hk : k - 0 < d.size := by omega
   rw [getElem!_pos d _ hk, getElem!_pos (d.map f) _ (by simpa using hk)]
   simp
  ·rfl

theorem wrap_sub {a b : Int} (h1 : 0 ≤ a ∧ a ≤ 1000000) (h2 : 0 ≤ b ∧ b ≤ 1000000) : RowKit.wrap64 (a - b) = a - b := by
 unfold RowKit.wrap64
 omega

section
variable {Mine : Mn} {G : Gh} {s : St} {w : World}

theorem zSort_ok : ∀ args s K, zSort args s K → ∀ Mine G w (vs : Array Value), Inv Mine G s.hp s.T w → args.length = vs.size →
  (∀ (i : Nat) x y, args[i]? = some x → vs[i]? = some y → TR G x y) → Comes Try.prog 70 vs w (CallPost Mine G s w K) := by
 intro args s K h Mine G w vs hi hl hr
 unfold zSort at h
 split at h
 case h_2 => exact h.elim
 rename_i i g off len cl
 split at h
 case h_2 => exact h.elim
 rename_i g' l ts ho
 have ho := getD_some ho
 obtain ⟨rfl, rfl, l2, ⟨X, t, d, b0, rfl, hX, hm, hb0, hll, hheld, hbd, hinj, hl2⟩, hk⟩ := h
 obtain ⟨u, c, rfl⟩ := vs2 hl
 have hu := hr 0 _ u rfl rfl
 have hc := hr 1 _ c rfl rfl
 have h0 := hpX_get hX
 refine .inl ⟨ent70, ?_⟩
 cases hc with | clo _ _ vs hvl hvs =>
 obtain ⟨v0, rfl⟩ : ∃ v0, vs = [v0] := by
  match vs, hvl with
  | [a], _ => exact ⟨a, rfl⟩
 have hv0 := hvs 0 _ v0 rfl rfl
 -- at no element
 have empty : ∀ (a : Option Addr) (cap : Nat), l = [] → Calls Try.prog 70 #[.slice a 0 cap, .func (.func 71) #[] #[v0]] w (CallPost Mine G s w K) := by
  intro a cap hn
  subst hn
  have : l2 = [] := by rw [hl2]; simp
  subst this
  have hc := AnyF.slices_SortFunc_none (P := Try.prog) (ρ := sortFL_ren) { sortFL with } a cap (.func (.func 71) #[] #[v0]) w
  refine Calls.mono hc ?_
  rintro e w' ⟨rfl, rfl⟩
  have hs : s.setO i (.arr g (.int .i64) [] ts) = s := by
   have hlt := (List.getElem?_eq_some_iff.1 ho).1
   have : s.hp.set i (some (.arr g (.int .i64) ([] : List Int) ts)) = s.hp := by
    apply List.ext_getElem?
    intro j
    rw [List.getElem?_set]
    split
    ·rename_i e; subst e; exact ho.symm
    ·rfl
   cases s
   simp only [St.setO] at this ⊢
   rw [this]
  rw [hs] at hk
  exact ⟨_, _, s, G, rfl, hk, .v _ _ (.tup [] [] rfl (fun i x y hx => by simp at hx)), rfl, hi, .refl _, .refl _ _, Nat.le_refl _, .refl _ _⟩
 generalize hlen : l.length = len at hu
 cases hu with
 | arrNil _ _ sz ct hloc => exact empty none 0 (List.eq_nil_of_length_eq_zero hlen)
 | arr _ _ _ _ b sz ct cap o hloc h1 h2 h3 =>
 obtain ⟨rfl, hrow⟩ := row_of hi ho hloc
 subst hlen
 by_cases hn : l = []
 ·subst hn
  exact empty _ cap rfl
 have hpos : 0 < l.length := List.length_pos_iff.2 hn
 have ho0 : o = 0 := by have := h3 (by omega); omega
 subst ho0
 obtain ⟨B0, bt, r, rfl, hseen⟩ := seen_of hi h0 hm hb0 hv0
 -- the elements are held objects
 obtain ⟨A, hA⟩ : ∃ A : Type, A = {o : Int // ∃ q, mfind (eqN o) d.p.es = some q} := ⟨_, rfl⟩
 let α := {o : Int // ∃ q, mfind (eqN o) d.p.es = some q}
 obtain ⟨x0, hx0⟩ := List.exists_mem_of_ne_nil l hn
 haveI : Inhabited α := ⟨⟨x0, hheld x0 hx0⟩⟩
 obtain ⟨la, hla⟩ : ∃ la : List α, la.map (·.1) = l := ⟨l.attach.map fun x => ⟨x.1, hheld x.1 x.2⟩, by rw [List.map_map]; exact List.attach_map_subtype_val l⟩
 have hlal : la.length = l.length := by rw [← hla, List.length_map]
 have sinceB : ∀ a : α, 0 ≤ sinceP d.p a.1 ∧ sinceP d.p a.1 ≤ 1000000 := by
  intro a
  obtain ⟨q, hq⟩ := a.2
  have := hbd _ (mfind_mem hq)
  unfold sinceP
  rw [hq]; exact this
 let cf : α → α → Int := fun a b => sinceP d.p a.1 - sinceP d.p b.1
 have hlt : ∀ a b : α, ltOf cf a b = decide (sinceP d.p a.1 < sinceP d.p b.1) := by
  intro a b
  show decide (sinceP d.p a.1 - sinceP d.p b.1 < 0) = _
  by_cases h : sinceP d.p a.1 < sinceP d.p b.1
  ·rw [decide_eq_true h, decide_eq_true (by omega)]
  ·rw [decide_eq_false h, decide_eq_false (by omega)]
 have hswo : SWO (ltOf cf) := ⟨fun x => by rw [hlt]; exact decide_eq_false (by omega), fun x y z h1 h2 => by
   rw [hlt] at *
   have := of_decide_eq_true h1; have := of_decide_eq_true h2
   exact decide_eq_true (by omega), fun x y z h1 h2 => by
   rw [hlt] at *
   have := of_decide_eq_false h1; have := of_decide_eq_false h2
   exact decide_eq_false (by omega)⟩
 have hT : ∀ x y : α, ltOf cf x y = false → ltOf cf y x = false → x = y := by
  intro x y h1 h2
  rw [hlt] at h1 h2
  have h1 := of_decide_eq_false h1
  have h2 := of_decide_eq_false h2
  obtain ⟨q, hq⟩ := x.2
  obtain ⟨q', hq'⟩ := y.2
  have e1 : sinceP d.p x.1 = q.2.2.1 := by unfold sinceP; rw [hq]
  have e2 : sinceP d.p y.1 = q'.2.2.1 := by unfold sinceP; rw [hq']
  exact Subtype.ext (hinj _ (mfind_mem hq) _ (mfind_mem hq') (show q.2.2.1 = q'.2.2.1 by omega))
 have hHa : Holds (fun a : α => encI a.1) w b 0 la.toArray := by
  intro j hj
  have hj1 : j < la.length := by simpa using hj
  have hj2 : j < l.toArray.size := by simp; omega
  obtain ⟨k1, k2⟩ := hrow.holds j hj2
  refine ⟨?_, k2⟩
  rw [k1, getElem!_pos l.toArray j hj2, getElem!_pos la.toArray j hj]
  simp [← hla]
 have hblk : b < w.heap.size := ((hi.objs i _ hrow.obj).blk ⟨g, 1, ct, rfl, hrow.loc⟩).2.2
 have own : ∀ k, Owns G 0 (.heap X) k → k < w.heap.size := fun k hk => ((hi.objs 0 _ h0).blk hk).2.2
 have hcmp : CmpLays1 Try.prog 71 #[.pointer (some ⟨B0, 0, none⟩)] (fun a : α => encI a.1) cf b 0 la.toArray.size w := by
  intro m os dk hs x y
  obtain ⟨q, hq⟩ := x.2
  obtain ⟨q', hq'⟩ := y.2
  have e1 : sinceP d.p x.1 = q.2.2.1 := by unfold sinceP; rw [hq]
  have e2 : sinceP d.p y.1 = q'.2.2.1 := by unfold sinceP; rw [hq']
  have b1 := sinceB x
  have b2 := sinceB y
  have := walk71 (hseen (sortWorld (fun a : α => encI a.1) w b 0 m dk os) (fun k hk => by
   unfold sortWorld
   rw [heap_grow_old _ _ (by rw [putRow_size]; exact own k hk)]
   exact putRow_other (w := Sort.ahead w m) (hrow.ne hi h0 hk))) hq hq'
  rw [wrap_sub (by rw [← e1]; exact b1) (by rw [← e2]; exact b2), ← e1, ← e2] at this
  refine Calls.mono this ?_
  rintro e w' ⟨rfl, qq, rfl⟩
  exact ⟨rfl, qq, #[], by rw [grow_empty]⟩
 have hcall := Any.slices_SortFunc_total (P := Try.prog) (ρ := sortFL_ren) sortFL (fun a : α => encI a.1) (fun _ => rfl) cf hswo 71 #[.pointer (some ⟨B0, 0, none⟩)] b 0 cap la.toArray w
  (enters_of Try.func71 (by kernel_rfl) rfl) hcmp hHa hblk (by simp; omega) hT
 have hsz : la.toArray.size = l.length := by simp [hlal]
 rw [hsz] at hcall
 refine Calls.mono hcall ?_
 rintro e w' ⟨rfl, n, os, rfl⟩
 have hms : ((la.mergeSort fun x y => !(ltOf cf) y x).map (·.1)) = l2 := by
  rw [hl2, ← hla]
  refine List.map_mergeSort fun x hx y hy => ?_
  rw [hlt]
  by_cases h : sinceP d.p y.1 < sinceP d.p x.1
  ·rw [decide_eq_true h, decide_eq_false (by omega)]; rfl
  ·rw [decide_eq_false h, decide_eq_true (by omega)]; rfl
 have hw : sortWorld (fun a : α => encI a.1) w b 0 n (la.toArray.toList.mergeSort fun x y => !(ltOf cf) y x).toArray os = putRow encI (Sort.ahead (grow w os) n) b 0 l2.toArray := by
  unfold sortWorld
  rw [putRow_map (fun a : α => a.1), show Sort.ahead (grow w os) n = grow (Sort.ahead w n) os from rfl, putRow_grow encI (Sort.ahead w n) os b 0 _ hblk, ← hms]
  congr 2
  simp
 rw [hw]
 have hl2l : l2.length = l.length := by rw [hl2, List.length_mergeSort]
 have hi2 : Inv Mine G s.hp s.T (grow w os) := hi.grownZ (by simp) (fun k hk => heap_grow_old w os hk)
 have hst2 : Stp Mine w (grow w os) := ⟨rfl, rfl, rfl, by simp, fun k hk => heap_grow_old w os (by rcases Nat.lt_or_ge k w.heap.size with q | q; exact q; exact absurd (hi.mine k q) hk)⟩
 obtain ⟨_, hrow2⟩ := row_of hi2 ho hloc
 obtain ⟨k1, k2⟩ := hrow2.put (l2 := l2) hi2 n l2.toArray (by simp [hl2l]) (by simp)
 exact ⟨_, _, s.setO i (.arr g (.int .i64) l2 ts), G, rfl, hk, .v _ _ (.tup [] [] rfl (fun i x y hx => by simp at hx)), rfl, k1, .refl _, .refl _ _, by simp [St.setO], hst2.trans k2⟩

end
end Go.Proofs.Ytefpoodhdfggdaa.AB

namespace Go.Proofs.Ytefpoodhdfggdaa.AB
open Go Go.RowKit

section
variable {X : XH} {t : Nat} {d : MD} {Mine : Mn} {G : Gh} {hp : Hp} {T : Toks} {w : World}

theorem held_run (hi : Inv Mine G hp T w) (h0 : hp[0]? = some (some (.heap X))) (h : MRep X t d) (hk : ∀ e ∈ d.hes, -9223372036854775808 ≤ e.1 ∧ e.1 ≤ 9223372036854775807) (hsz : d.hes.length < 2000000) {u : Value}
  (hu : TR G (.ref (some t) cT 0 []) u) : Calls Try.prog 42 #[u] w fun e w' => ∃ v, e = .returned v ∧
   w'.ownsRow w.heap.size 3 1 v ((d.hes.map (·.1)).mergeSort leN).length (((d.hes.map (·.1)).mergeSort leN).map encZ) ∧ Go.RowKit.Below w.heap.size w w' := by
 cases hu with
 | ref _ _ _ _ b ct hl0 hp =>
 -- the arena
 obtain ⟨b', h1, h2, h3, cur, el, h4, h5, h6⟩ := hi.xarr h0 h.box.arr
 rw [hl0] at h1; cases h1
 obtain ⟨u0, q1, q2, q3⟩ := h6 0 _ rfl 0 (.mp (.int .i64) (.ref cL) (some d.hH)) (by
  simp only [MD.tv, cT, Xd.cells, List.range, List.range.loop, List.flatMap_cons, List.flatMap_nil, List.cons_append, List.nil_append, List.getElem?_cons_succ, List.getElem?_cons_zero])
 cases q2 with
 | mp _ _ _ r sz ct' hlm =>
 obtain ⟨r', sz', ct'', g1, g2, g3, ents', ck, g4, g5, g6, g7⟩ := hi.xmp h0 (mp_at.2 h.mh)
 rw [hlm] at g1; cases g1
 have hlen : ents'.size = d.hes.length := g5.symm
 have hkey : ∀ (i : Nat) x, ents'[i]? = some x → ∃ e, d.hes[i]? = some e ∧ x.key = .int .i64 e.1 := by
  intro i x hx
  have hlt := (Array.getElem?_eq_some_iff.1 hx).1
  have hi3 : i < d.hes.length := by rw [← hlen]; exact hlt
  have he : d.hes[i]? = some d.hes[i] := List.getElem?_eq_getElem hi3
  have := (g6 i _ x he hx).1
  refine ⟨_, he, ?_⟩
  have hk : VR G (.int .i64 d.hes[i].1) x.key := this
  generalize x.key = y at hk
  cases hk; rfl
 have hrd : ∀ (i : Nat) x, ents'[i]? = some x → ∃ e, d.hes[i]? = some e ∧ WideElems.rd Try.prog 3 noR x = some (.int .i64 e.1, .nil) := by
  intro i x hx
  obtain ⟨e, he, hk'⟩ := hkey i x hx
  have := hk e (List.mem_of_getElem? he)
  exact ⟨e, he, rg_int hk' this.1 this.2⟩
 have fit : WideElems.Fit Try.prog 3 noR ents' ck := by
  refine ⟨?_, g7, fun x hx => ?_⟩
  ·rw [hlen]; unfold maxLen; omega
  ·obtain ⟨i, hi'⟩ := List.getElem?_of_mem hx
   obtain ⟨e, _, ha⟩ := hrd i x (by simpa using hi')
   exact ⟨_, ha⟩
 have hown := World.ownsMap_of_fit (w := w) (R := noR) g4 fit (fun _ _ _ e => e)
 have hpm := WideShapes.sorted_perm (ents'.toList.map (WideElems.rg Try.prog 3 noR))
 have hkeys : intKeys (.map (ents'.toList.map (WideElems.rg Try.prog 3 noR))) = d.hes.map (·.1) := by
  show (ents'.toList.map (WideElems.rg Try.prog 3 noR)).map (fun p => Go.intOf p.1) = _
  refine List.ext_getElem? fun i => ?_
  rw [List.map_map, List.getElem?_map, List.getElem?_map]
  cases hx : ents'.toList[i]? with
  | none =>
   have : d.hes[i]? = none := by
    rw [List.getElem?_eq_none_iff] at hx ⊢
    rw [← hlen]; simpa using hx
   rw [this]; rfl
  | some x =>
   obtain ⟨e, he, hk'⟩ := hrd i x (by simpa using hx)
   rw [he]
   simp only [Option.map_some, Function.comp, WideElems.rg, hk', Option.getD_some]
   rfl
 have hsize : Go.Maps.size (DataW.map ((ents'.toList.map (WideElems.rg Try.prog 3 noR)).foldr DataW.insert [])) = d.hes.length := by
  show ((ents'.toList.map (WideElems.rg Try.prog 3 noR)).foldr DataW.insert []).length = _
  rw [hpm.length_eq]; simp [hlen]
 have hcell : w.cell? ⟨b, 0, none⟩ = some (.map (some r)) := by
  unfold World.cell?
  simp only [h4]
  simpa using q1
 have hcall := held_calls b r ents'.size _ noR w hcell hown (by rw [hsize]; unfold maxLen; omega) (by rw [hsize]; omega)
 refine hcall.mono ?_
 rintro e w' ⟨v, ss, rfl, hs, hrow, hbel⟩
 have hssp : ss.Perm (d.hes.map (·.1)) := by
  refine hs.trans ?_
  rw [← hkeys]
  unfold intKeys
  exact hpm.map _
 have hms : ss.mergeSort (fun x y => decide (x ≤ y)) = (d.hes.map (·.1)).mergeSort leN := mergeSort_of_perm_i hssp
 have hlen2 : ss.length = ((d.hes.map (·.1)).mergeSort leN).length := by
  rw [← hms]; simp
 rw [hms, hlen2] at hrow
 exact ⟨v, rfl, hrow, hbel⟩

end

section
variable {s : St}

theorem zHeld_ok : ∀ args s K, zHeld args s K → ∀ Mine G w (vs : Array Value), Inv Mine G s.hp s.T w → args.length = vs.size →
  (∀ (i : Nat) x y, args[i]? = some x → vs[i]? = some y → TR G x y) → Comes Try.prog 42 vs w (CallPost Mine G s w K) := by
 intro args s K h Mine G w vs hi hl hr
 obtain ⟨l, ⟨X, t, d, rfl, hX, hm, hb, hsz, rfl⟩, hk⟩ := h
 obtain ⟨u, rfl⟩ : ∃ u, vs = #[u] := by
  have : vs.size = 1 := hl.symm
  exact ⟨vs[0], by
   apply Array.ext
   ·simpa using this
   ·intro i h1 h2
    have : i = 0 := by simp at h2; omega
    subst this; rfl⟩
 have hu := hr 0 _ u rfl rfl
 have h0 := hpX_get hX
 have hml : d.hes.map (·.1) = d.p.es.map (·.1) := by unfold MD.hes; rw [List.map_map]; rfl
 have hrun := held_run hi h0 hm (fun e he => by
  unfold MD.hes at he
  obtain ⟨x, hx, rfl⟩ := List.mem_map.1 he
  exact hb x hx) (by unfold MD.hes; rw [List.length_map]; exact hsz) hu
 rw [hml] at hrun
 refine .inl ⟨ent42, hrun.mono ?_⟩
 rintro e w' ⟨v, rfl, ⟨hrl, hrow⟩, hbel⟩
 have hi2 : Inv Mine G s.hp s.T w' := hi.grownZ hbel.size hbel.block
 have hst2 : Stp Mine w w' := ⟨hbel.os, hbel.tape, hbel.output, hbel.size, fun k hk => hbel.block k (by rcases Nat.lt_or_ge k w.heap.size with q | q; exact q; exact absurd (hi.mine k q) hk)⟩
 have hd : (d.p.es.map (·.1)).mergeSort leN = heldP d.p := rfl
 rw [hd] at hrow
 have hlo : s.hp.length = s.hp.length := rfl
 rcases hrow with ⟨rfl, hn⟩ | ⟨b, cap, cur, rfl, h3, h4, h5, h6, h7, h8⟩
 ·have hl0 : heldP d.p = [] := List.length_eq_zero_iff.1 hn
  rw [hl0] at hk
  obtain ⟨g1, g2, g3⟩ := hi2.adopt (.arr 0 (.int .i64) [] fun _ => .no) (none, 1, 0) (fun _ => Iff.rfl) (fun b hb => by cases hb) (fun b hb => by cases hb) ⟨none, 0, by simp [Gh.setLoc, O.gen, Cd.sz], by simp, rfl⟩
  exact ⟨_, _, _, _, rfl, hk, .arrNil _ 0 1 0 (by simp [Gh.setLoc, O.gen]), rfl, g1, g2, g3, by simp [St.addO], hst2⟩
 ·have hno : ∀ o, G.cell b o = none := by
   intro o
   cases hc : G.cell b o with
   | none => rfl
   | some v => have := hi.cell_lt hc; omega
  have hnm : G.mp b = none := by
   cases hc : G.mp b with
   | none => rfl
   | some v => have := hi.mp_lt hc; omega
  have old : (∀ i o', s.hp[i]? = some (some o') → ¬ Owns G i o' b) ∧ ∀ t ∈ s.T.l, ∀ e c, G.tok t ≠ some (some b, e, c) := by
   refine ⟨fun i o' hi' hown => ?_, fun t ht e c htk => ?_⟩
   ·have := ((hi.objs i o' hi').blk hown).2.2
    omega
   ·obtain ⟨bo, e', c', k1, k2⟩ := hi.toks t ht
    rw [htk] at k1; cases k1
    obtain ⟨_, ⟨cur, el, k3, _⟩, _⟩ := k2 b rfl
    have := heap_lt k3
    omega
  have hcells : ∀ (e : Nat) x, (heldP d.p)[e]? = some x → cur[e]? = some (.int .i64 x) := by
   intro e x hx
   have he := (List.getElem?_eq_some_iff.1 hx).1
   have h9 : ((heldP d.p).map encZ)[e]? = some (.int .i64 x) := by rw [List.getElem?_map, hx]; rfl
   rw [← h8, List.getElem?_take, if_pos (by omega)] at h9
   simpa using h9
  obtain ⟨g1, g2, g3⟩ := hi2.adopt (.arr 0 (.int .i64) (heldP d.p) fun _ => .no) (some b, 1, cap) (fun _ => Iff.rfl) (fun b' hb => by cases hb; exact old.1) (fun b' hb => by cases hb; exact old.2)
   ⟨some b, cap, by simp [Gh.setLoc, O.gen, Cd.sz], h5, hi.mine b h3, ⟨hno, hnm⟩, cur, 3, h4, h7, fun e x hx j y hy => by
    obtain ⟨rfl, rfl⟩ := nl_cells x _ j y hy
    exact ⟨.int .i64 x, by have := hcells e x hx; simpa [show (Cd.int .i64).sz = 1 from rfl] using this, .int _ _, rfl⟩⟩
  exact ⟨_, _, _, _, rfl, hk, .arr _ 0 0 (heldP d.p).length b 1 cap cap 0 (by simp [Gh.setLoc, O.gen]) h5 (by omega) (fun _ => by simp), rfl, g1, g2, g3, by simp [St.addO], hst2⟩

theorem z36_ok : ZOK Try.prog Z36z := by
 intro f z hz args s K h
 unfold Z36z at hz
 cases h1 : Nat.beq f 42 with
 | true =>
  rw [h1] at hz
  cases hz
  rw [Nat.eq_of_beq_eq_true h1]
  exact zHeld_ok args s K h
 | false =>
  rw [h1] at hz
  cases h2 : Nat.beq f 68 with
  | true =>
   rw [h2] at hz
   cases hz
   rw [Nat.eq_of_beq_eq_true h2]
   exact zDel_ok args s K h
  | false =>
   rw [h2] at hz
   cases h3 : Nat.beq f 70 with
   | true =>
    rw [h3] at hz
    cases hz
    rw [Nat.eq_of_beq_eq_true h3]
    exact zSort_ok args s K h
   | false =>
    rw [h3] at hz
    cases hz

theorem xcOfZ {Z : FuncId → Option ZRule} (hz : ZOK Try.prog Z) {X : Cx} (hX : X.tt = tt) (hfn : fnsB Try.prog X.fns) {d : Nat} {f : FuncId} {fn : Func} (hf : Try.prog.funcs[f]? = some fn) (hname : fn.name ≠ "runtime.NumGoroutine") {cs : List Xd} {args : List TV} {H : XH}
  {Q : xresT cs → XH → Prop} (h : fnK X.tt (callZ Try.prog X Z d) (X.md f) (X.mk1 f) fn args ⟨[], [some (.heap H)], ⟨0, []⟩⟩ (xfin cs Q)) : XC Try.prog f cs args H Q := by
 have htt : TTOK Try.prog X.tt := by rw [hX]; exact tt_ok
 exact XC.of htt (callZ_sound htt mix (fun f fn => fnsB_spec hfn f fn) hz) callZ_det mix hf hname h

end
end Go.Proofs.Ytefpoodhdfggdaa.AB

set_option maxRecDepth 100000
set_option maxHeartbeats 2000000
namespace Go.Proofs.Ytefpoodhdfggdaa.AB
open Go
noncomputable def X36z : Cx := ⟨tt, [], [(65, [(.pure (.int .i64))]), (67, [])], [(36, [(0, 0, .x (.ref yZ2)), (0, 1, .x (.pure (.int .i64))), (3, 9, .xc), (5, 1, .inl), (5, 3, .inl), (6, 2, .inl), (11, 2, .xc)])], [(36, [(0, mkM 58 0 [2, 7, 41, 42, 43], 1)])], []⟩
theorem FN36z : fnsB Try.prog X36z.fns := (show True from trivial)
def M36z_0 : List Bool × Nat := (mkM 58 0 [2, 7, 41, 42, 43], 2)
def S36z_0 (t2 : Nat) (l7 : List Int) (l7k : Tok) (t41n : Nat) (t42 : Int) (t43 : Int) (hq0 : XH) (hq1 : List Int) (hq1s : Nat → Tok) (T : Toks) : St :=
  mkS 58 [(2, (.ref (some t2) (.ref yZ2) 0 [])), (7, (.v (.list (.int .i64) l7 l7k))), (41, (.arr 1 0 0 t41n)), (42, (.v (.int .i64 t42))), (43, (.v (.int .i64 t43)))] [(some (.heap hq0)), (some (.arr 0 (.int .i64) hq1 hq1s))] T
noncomputable def B36z_0 : (Exit → St → Prop) → St → Prop := (awp X36z.tt (callZ Try.prog X36z Z36z 0) (X36z.md 36) 1 (X36z.mk1 36) 0 (codeAt [1, 1, 1, 1, 1, 0, 1, 0, 0] (bd Try.f36)))
noncomputable def K36z_0 (R : ((List Int)) → XH → Prop) : Exit → St → Prop := seqK ((awp X36z.tt (callZ Try.prog X36z Z36z 0) (X36z.md 36) 1 (X36z.mk1 36) 0 (codeAt [1, 1, 1, 1, 1, 1] (bd Try.f36))) (retK tt Try.f36.results.toList fun x s' => xfin [(.pure (.slice (.int .i64)))] R x ⟨[], s'.hp, s'.T⟩)) (retK tt Try.f36.results.toList fun x s' => xfin [(.pure (.slice (.int .i64)))] R x ⟨[], s'.hp, s'.T⟩)
noncomputable def Q36z_0 (R : ((List Int)) → XH → Prop) : Exit → St → Prop := (blockK 0 (K36z_0 R))
theorem E36z (X : XH) (t0 : Nat) (thread1 : Int) {R : ((List Int)) → XH → Prop} (h : (∀ (X1 : XH), X1 = (XH.add X (.arr (.ref yZ2) [(some t0)])) → (∀ (X2 : XH), X2 = (XH.add X1 (.arr (.pure (.int .i64)) [thread1])) → (∃ (a3 : (Option Nat)), XH.el X2 (.ref yZ2) X.n 0 = some a3 ∧ (refK a3 (fun (h4 : Nat) => (∃ (a5 : ((Option Nat) × ((Option Nat) × Int))), XH.el X2 yZ2 h4 0 = some a5 ∧ (∃ (a6 : Int), XH.el X2 (.pure (.int .i64)) X1.n 0 = some a6 ∧ (∃ (es7 : List (Int × Int)), XH.vmp X2 (.int .i64) (.pure (.int .i64)) a5.2.1 = some es7 ∧ (∀ (v8 : Int), mfind (Cd.keq (.int .i64) a6) es7 = some v8 → (((decide (v8 > (0 : Int))) = true → (∃ (a9 : (Option Nat)), XH.el X2 (.ref yZ2) X.n 0 = some a9 ∧ (refK a9 (fun (h10 : Nat) => (∃ (a11 : ((Option Nat) × ((Option Nat) × Int))), XH.el X2 yZ2 h10 0 = some a11 ∧ (∃ (es12 : List (Int × (Option Nat))), XH.vmp X2 (.int .i64) (.ref yZ3) a11.1 = some es12 ∧ (∀ (v13 : (Option Nat)), mfind (Cd.keq (.int .i64) v8) es12 = some v13 → (refK v13 (fun (h14 : Nat) => (∃ (a15 : Int), XH.el X2 (.pure (.int .i64)) X1.n 0 = some a15 ∧ (XC Try.prog 67 [] [(.ref (some h14) yZ3 0 [.snd, .snd, .snd]), (.v (.int .i64 a15))] X2 (fun (p16 : Unit) (X17 : XH) => (∃ (a18 : (Option Nat)), XH.el X17 (.ref yZ2) X.n 0 = some a18 ∧ (refK a18 (fun (h19 : Nat) => (∃ (a20 : ((Option Nat) × ((Option Nat) × Int))), XH.el X17 yZ2 h19 0 = some a20 ∧ (∃ (a21 : Int), XH.el X17 (.pure (.int .i64)) X1.n 0 = some a21 ∧ (∃ (h22 : Nat) (es23 : List (Int × Int)), a20.2.1 = some h22 ∧ XH.mp X17 (.int .i64) (.pure (.int .i64)) h22 = some es23 ∧ (∀ (X24 : XH), X24 = (XH.set X17 h22 (.map (.int .i64) (.pure (.int .i64)) (mdel (Cd.keq (.int .i64) a21) es23))) → (∃ (a25 : (Option Nat)), XH.el X24 (.ref yZ2) X.n 0 = some a25 ∧ (∃ (l26 : List Int), HeldIs [(.ref a25 yZ2 0 [])] [(some (.heap X24))] l26 ∧ (0 = 0 ∧ l26.length = (l26).length ∧ ∃ (l27 : List Int), DelIs (.clo 69 [(.ref (some X.n) (.ref yZ2) 0 []), (.ref (some X1.n) (.pure (.int .i64)) 0 [])]) [(some (.heap X24)), (some (.arr 0 (.int .i64) l26 (fun _ => .no)))] l26 l27 ∧ (0 = 0 ∧ l27.length = (l27).length ∧ ∃ (l28 : List Int), SortIs (.clo 71 [(.ref (some X.n) (.ref yZ2) 0 [])]) [(some (.heap X24)), (some (.arr 0 (.int .i64) l27 (fun _ => .no)))] l27 l28 ∧ (Loops B36z_0 M36z_0 (Q36z_0 R)
  (S36z_0 X.n ([] : List Int) .exact l27.length (((l27.length : Nat) : Int)) (0 : Int) X24 l28 (fun _ => .no) ⟨0, []⟩))))))))))))))))))) ∧ (mfind (Cd.keq (.int .i64) v8) es12 = none → False))))))) ∧
 ((decide (v8 > (0 : Int))) = false → (∃ (a29 : (Option Nat)), XH.el X2 (.ref yZ2) X.n 0 = some a29 ∧ (∃ (l30 : List Int), HeldIs [(.ref a29 yZ2 0 [])] [(some (.heap X2))] l30 ∧ (0 = 0 ∧ l30.length = (l30).length ∧ ∃ (l31 : List Int), DelIs (.clo 69 [(.ref (some X.n) (.ref yZ2) 0 []), (.ref (some X1.n) (.pure (.int .i64)) 0 [])]) [(some (.heap X2)), (some (.arr 0 (.int .i64) l30 (fun _ => .no)))] l30 l31 ∧ (0 = 0 ∧ l31.length = (l31).length ∧ ∃ (l32 : List Int), SortIs (.clo 71 [(.ref (some X.n) (.ref yZ2) 0 [])]) [(some (.heap X2)), (some (.arr 0 (.int .i64) l31 (fun _ => .no)))] l31 l32 ∧ (Loops B36z_0 M36z_0 (Q36z_0 R)
  (S36z_0 X.n ([] : List Int) .exact l31.length (((l31.length : Nat) : Int)) (0 : Int) X2 l32 (fun _ => .no) ⟨0, []⟩))))))))) ∧ (mfind (Cd.keq (.int .i64) a6) es7 = none → (((decide ((0 : Int) > (0 : Int))) = true → (∃ (a33 : (Option Nat)), XH.el X2 (.ref yZ2) X.n 0 = some a33 ∧ (refK a33 (fun (h34 : Nat) => (∃ (a35 : ((Option Nat) × ((Option Nat) × Int))), XH.el X2 yZ2 h34 0 = some a35 ∧ (∃ (es36 : List (Int × (Option Nat))), XH.vmp X2 (.int .i64) (.ref yZ3) a35.1 = some es36 ∧ (∀ (v37 : (Option Nat)), mfind (Cd.keq (.int .i64) (0 : Int)) es36 = some v37 → (refK v37 (fun (h38 : Nat) => (∃ (a39 : Int), XH.el X2 (.pure (.int .i64)) X1.n 0 = some a39 ∧ (XC Try.prog 67 [] [(.ref (some h38) yZ3 0 [.snd, .snd, .snd]), (.v (.int .i64 a39))] X2 (fun (p40 : Unit) (X41 : XH) => (∃ (a42 : (Option Nat)), XH.el X41 (.ref yZ2) X.n 0 = some a42 ∧ (refK a42 (fun (h43 : Nat) => (∃ (a44 : ((Option Nat) × ((Option Nat) × Int))), XH.el X41 yZ2 h43 0 = some a44 ∧ (∃ (a45 : Int), XH.el X41 (.pure (.int .i64)) X1.n 0 = some a45 ∧ (∃ (h46 : Nat) (es47 : List (Int × Int)), a44.2.1 = some h46 ∧ XH.mp X41 (.int .i64) (.pure (.int .i64)) h46 = some es47 ∧ (∀ (X48 : XH), X48 = (XH.set X41 h46 (.map (.int .i64) (.pure (.int .i64)) (mdel (Cd.keq (.int .i64) a45) es47))) → (∃ (a49 : (Option Nat)), XH.el X48 (.ref yZ2) X.n 0 = some a49 ∧ (∃ (l50 : List Int), HeldIs [(.ref a49 yZ2 0 [])] [(some (.heap X48))] l50 ∧ (0 = 0 ∧ l50.length = (l50).length ∧ ∃ (l51 : List Int), DelIs (.clo 69 [(.ref (some X.n) (.ref yZ2) 0 []), (.ref (some X1.n) (.pure (.int .i64)) 0 [])]) [(some (.heap X48)), (some (.arr 0 (.int .i64) l50 (fun _ => .no)))] l50 l51 ∧ (0 = 0 ∧ l51.length = (l51).length ∧ ∃ (l52 : List Int), SortIs (.clo 71 [(.ref (some X.n) (.ref yZ2) 0 [])]) [(some (.heap X48)), (some (.arr 0 (.int .i64) l51 (fun _ => .no)))] l51 l52 ∧ (Loops B36z_0 M36z_0 (Q36z_0 R)
  (S36z_0 X.n ([] : List Int) .exact l51.length (((l51.length : Nat) : Int)) (0 : Int) X48 l52 (fun _ => .no) ⟨0, []⟩))))))))))))))))))) ∧ (mfind (Cd.keq (.int .i64) (0 : Int)) es36 = none → False))))))) ∧
 ((decide ((0 : Int) > (0 : Int))) = false → (∃ (a53 : (Option Nat)), XH.el X2 (.ref yZ2) X.n 0 = some a53 ∧ (∃ (l54 : List Int), HeldIs [(.ref a53 yZ2 0 [])] [(some (.heap X2))] l54 ∧ (0 = 0 ∧ l54.length = (l54).length ∧ ∃ (l55 : List Int), DelIs (.clo 69 [(.ref (some X.n) (.ref yZ2) 0 []), (.ref (some X1.n) (.pure (.int .i64)) 0 [])]) [(some (.heap X2)), (some (.arr 0 (.int .i64) l54 (fun _ => .no)))] l54 l55 ∧ (0 = 0 ∧ l55.length = (l55).length ∧ ∃ (l56 : List Int), SortIs (.clo 71 [(.ref (some X.n) (.ref yZ2) 0 [])]) [(some (.heap X2)), (some (.arr 0 (.int .i64) l55 (fun _ => .no)))] l55 l56 ∧ (Loops B36z_0 M36z_0 (Q36z_0 R)
  (S36z_0 X.n ([] : List Int) .exact l55.length (((l55.length : Nat) : Int)) (0 : Int) X2 l56 (fun _ => .no) ⟨0, []⟩)))))))))))))))))) :
  fnK X36z.tt (callZ Try.prog X36z Z36z 0) (X36z.md 36) (X36z.mk1 36) Try.f36 [(.ref (some t0) yZ2 0 []), (.v (.int .i64 thread1))] ⟨[], [some (.heap X)], ⟨0, []⟩⟩ (xfin [(.pure (.slice (.int .i64)))] R) := Eq.mp (by kernel_rfl) h
theorem L36z_0 (t2 : Nat) (l7 : List Int) (l7k : Tok) (t41n : Nat) (t42 : Int) (t43 : Int) (hq0 : XH) (hq1 : List Int) (hq1s : Nat → Tok) (T : Toks) {R : ((List Int)) → XH → Prop} {k0 : St → Prop}
 (h : (((decide (t43 < t42)) = true → (0 = 0 ∧ 0 ≤ t43 ∧ t43 < ((t41n : Nat) : Int) ∧ (0 = 0 ∧ (0 + (t43).toNat) < (hq1).length ∧ (∃ (a57 : (Option Nat)), XH.el hq0 (.ref yZ2) t2 0 = some a57 ∧ (XC Try.prog 65 [(.pure (.int .i64))] [(.ref a57 yZ2 0 []), (.v (.int .i64 ((hq1.getD ((0 + (t43).toNat)) 0))))] hq0 (fun (p58 : Int) (X59 : XH) => (((decide (p58 > (0 : Int))) = true → (Tok.own l7k T.l ∧ ((l7).length + (([p58] : List Int)).length) * 8 ≤ room ∧ k0 (S36z_0 t2 ((l7 ++ ([p58] : List Int))) (.tk T.n) t41n t42 ((IntKind.wrap .i64 (t43 + (1 : Int)))) X59 hq1 hq1s ⟨(T.n + 1), (T.n :: Tok.drop l7k T.l)⟩))) ∧
 ((decide (p58 > (0 : Int))) = false → k0 (S36z_0 t2 l7 l7k t41n t42 ((IntKind.wrap .i64 (t43 + (1 : Int)))) X59 hq1 hq1s T))))))))) ∧
 ((decide (t43 < t42)) = false → R l7 hq0))) :
  B36z_0 (loopQ M36z_0 k0 (Q36z_0 R)) (S36z_0 t2 l7 l7k t41n t42 t43 hq0 hq1 hq1s T) := Eq.mp (by kernel_rfl) h
end Go.Proofs.Ytefpoodhdfggdaa.AB

namespace Go.Proofs.Ytefpoodhdfggdaa.AB
open Go

variable {X X' Y : XH} {t : Nat} {d : MD} {o : Int} {l : PL}

def stripP (p : PD) (th : Int) : PD := match mfind (eqN th) p.ws with
 | none => p
 | some v => if v > 0 then match mfind (eqN v) p.es with
   | some l => { p with es := updK p.es v (l.1, l.2.1, l.2.2.1, l.2.2.2.filter fun y => !(y == th)), ws := mdel (eqN th) p.ws }
   | none => p
  else p

def sortP (p : PD) (th : Int) : List Int := ((heldP p).filter fun o => decide (ownP p o = th)).mergeSort fun a b => decide (sinceP p a ≤ sinceP p b)

def leavePF : List Int → List Int → PD → List Int × PD
 | [], out, p => (out, p)
 | o :: rs, out, p => leavePF rs (if (nextP p o).1 > 0 then out ++ [(nextP p o).1] else out) (nextP p o).2

structure Fit (p : PD) : Prop where
 sh : short p
 ky : ∀ e ∈ p.es, -9223372036854775808 ≤ e.1 ∧ e.1 ≤ 9223372036854775807
 ln : p.es.length ≤ 1000000
 sc : ∀ e ∈ p.es, 0 ≤ e.2.2.2.1 ∧ e.2.2.2.1 ≤ 1000000
 si : ∀ e ∈ p.es, ∀ e' ∈ p.es, e.2.2.2.1 = e'.2.2.2.1 → e.1 = e'.1

theorem nextP_other {p : PD} (hn : (p.es.map (·.1)).Nodup) {q : Int} (hne : q ≠ o) : mfind (eqN q) (nextP p o).2.es = mfind (eqN q) p.es := by
 unfold nextP
 cases ho : mfind (eqN o) p.es with
 | none => rfl
 | some l =>
  dsimp only
  cases hw : l.2.2.2 with
  | nil => show mfind (eqN q) (mdel (eqN o) p.es) = _; rw [mfind_mdel hn, if_neg hne]
  | cons x r =>
   show mfind (eqN q) (updK (updK p.es o (l.1, l.2.1, l.2.2.1, r)) o (x, 1, nextT p, r)) = _
   rw [updK_find (l0 := (l.1, l.2.1, l.2.2.1, r)) (by rw [updK_find ho, if_pos rfl]), if_neg hne, updK_find ho, if_neg hne]

theorem nextP_short {p : PD} (hn : (p.es.map (·.1)).Nodup) (h : short p) : short (nextP p o).2 := by
 unfold nextP
 cases ho : mfind (eqN o) p.es with
 | none => exact h
 | some l =>
  dsimp only
  have hl := h _ (mfind_mem ho)
  have hl : l.2.2.2.length ≤ 1000000 := hl
  cases hw : l.2.2.2 with
  | nil =>
   intro e he
   have he : e ∈ mdel (eqN o) p.es := he
   rw [mdel_eq _ _ hn] at he
   exact h e (List.mem_filter.1 he).1
  | cons x r =>
   rw [hw] at hl
   simp only [List.length_cons] at hl
   intro e he
   have he : e ∈ updK (updK p.es o (l.1, l.2.1, l.2.2.1, r)) o (x, 1, nextT p, r) := he
   rcases updK_mem he with ⟨rfl, _⟩ | ⟨h1, he⟩
   ·show r.length ≤ 1000000; omega
   ·rcases updK_mem he with ⟨rfl, _⟩ | ⟨_, he⟩
    ·exact absurd rfl h1
    ·exact h e he

theorem heldP_mem {p : PD} (hm : o ∈ heldP p) : ∃ l, mfind (eqN o) p.es = some l := by
 have hm := (List.mergeSort_perm (p.es.map (·.1)) leN).mem_iff.1 hm
 obtain ⟨e, he, rfl⟩ := List.mem_map.1 hm
 cases hc : mfind (eqN e.1) p.es with
 | some l => exact ⟨l, rfl⟩
 | none => exact absurd rfl (mfind_none hc e he)

theorem sortP_mem {p : PD} {th : Int} (hm : o ∈ sortP p th) : o ∈ heldP p := (List.mem_filter.1 ((List.mergeSort_perm _ _).mem_iff.1 hm)).1

theorem sortP_nodup {p : PD} (hn : (p.es.map (·.1)).Nodup) (th : Int) : (sortP p th).Nodup := by
 refine (List.mergeSort_perm _ _).nodup_iff.2 ?_
 have h0 : (heldP p).Nodup := (List.mergeSort_perm (p.es.map fun e : Int × PL => e.1) leN).nodup_iff.2 hn
 exact h0.sublist List.filter_sublist

theorem sortP_len {p : PD} (th : Int) : (sortP p th).length ≤ p.es.length := by
 unfold sortP heldP
 rw [List.length_mergeSort]
 refine Nat.le_trans (List.length_filter_le _ _) ?_
 rw [List.length_mergeSort, List.length_map]
 exact Nat.le_refl _

theorem c36tail (h : MRep Y t d) (hf : Fit d.p) {x0 x1 : Nat} {th : Int} (b0 : Box Y (.ref cT) x0 (some t)) (b1 : Box Y cN x1 th) (hx0 : x0 ∉ d.hs t) {R : List Int → XH → Prop}
  (hR : ∀ Z, MGoes Y t d Z (leavePF (sortP d.p th) [] d.p).2 → R (leavePF (sortP d.p th) [] d.p).1 Z) :
  ∃ a29 : Option Nat, XH.el Y (.ref cT) x0 0 = some a29 ∧ ∃ l30 : List Int, HeldIs [(.ref a29 cT 0 [])] [(some (.heap Y))] l30 ∧ (0 = 0 ∧ l30.length = (l30).length ∧
   ∃ l31 : List Int, DelIs (.clo 69 [(.ref (some x0) (.ref cT) 0 []), (.ref (some x1) (.pure (.int .i64)) 0 [])]) [(some (.heap Y)), (some (.arr 0 (.int .i64) l30 (fun _ => .no)))] l30 l31 ∧ (0 = 0 ∧ l31.length = (l31).length ∧
    ∃ l32 : List Int, SortIs (.clo 71 [(.ref (some x0) (.ref cT) 0 [])]) [(some (.heap Y)), (some (.arr 0 (.int .i64) l31 (fun _ => .no)))] l31 l32 ∧
     Loops B36z_0 M36z_0 (Q36z_0 R) (S36z_0 x0 ([] : List Int) .exact l31.length (((l31.length : Nat) : Int)) (0 : Int) Y l32 (fun _ => .no) ⟨0, []⟩))) := by
 have hhl : (heldP d.p).length = d.p.es.length := by unfold heldP; rw [List.length_mergeSort, List.length_map]
 have hfl : ((heldP d.p).filter fun o => decide (ownP d.p o = th)).length ≤ d.p.es.length := by
  rw [← hhl]; exact List.length_filter_le _ _
 have hln := hf.ln
 refine ⟨_, b0.el, heldP d.p, ⟨Y, t, d, rfl, rfl, h, hf.ky, by omega, rfl⟩, rfl, rfl, (heldP d.p).filter (fun o => decide (ownP d.p o = th)), ⟨Y, t, d, x0, x1, th, rfl, rfl, h, b0, b1, by omega, fun o ho => heldP_mem ho, rfl⟩, rfl, rfl,
  sortP d.p th, ⟨Y, t, d, x0, rfl, rfl, h, b0, by omega, fun o ho => heldP_mem (List.mem_filter.1 ho).1, hf.sc, hf.si, rfl⟩, ?_⟩
 have hsl : (sortP d.p th).length = ((heldP d.p).filter fun o => decide (ownP d.p o = th)).length := List.length_mergeSort _
 rw [← hsl]
 have hnd := sortP_nodup h.nd th
 have hin : ∀ o ∈ sortP d.p th, ∃ l, mfind (eqN o) d.p.es = some l := fun o ho => heldP_mem (sortP_mem ho)
 have hle := sortP_len (p := d.p) th
 generalize sortP d.p th = all at hnd hin hle hR
 refine Loops.intro (fun q : Nat × List Int × Tok × XH × Toks => S36z_0 x0 q.2.1 q.2.2.1 all.length ((all.length : Nat) : Int) (q.1 : Int) q.2.2.2.1 all (fun _ => .no) q.2.2.2.2)
  (fun q => q.1 ≤ all.length ∧ q.2.2.1.fresh q.2.2.2.2 ∧ q.2.1.length ≤ q.1 ∧ ∃ d2, MRep q.2.2.2.1 t d2 ∧ Mv Y (d.hs t) q.2.2.2.1 (d2.hs t) ∧ short d2.p ∧ (∀ o ∈ all.drop q.1, ∃ l, mfind (eqN o) d2.p.es = some l) ∧
   leavePF all [] d.p = leavePF (all.drop q.1) q.2.1 d2.p) (fun q => all.length - q.1) (0, [], .exact, Y, ⟨0, []⟩) rfl
  ⟨Nat.zero_le _, trivial, Nat.le_refl _, d, h, .refl _ _, hf.sh, by rw [List.drop_zero]; exact hin, by rw [List.drop_zero]⟩ ?_
 rintro ⟨k, out, tk, Z, T⟩ ⟨hk, hfr, hol, d2, r2, m2, s2, in2, eq2⟩
 have hk : k ≤ all.length := hk
 have r2 : MRep Z t d2 := r2
 have hol : out.length ≤ k := hol
 have in2 : ∀ o ∈ all.drop k, ∃ l, mfind (eqN o) d2.p.es = some l := in2
 have eq2 : leavePF all [] d.p = leavePF (all.drop k) out d2.p := eq2
 have m2 : Mv Y (d.hs t) Z (d2.hs t) := m2
 have b0' : Box Z (.ref cT) x0 (some t) := b0.keep (m2.keep _ b0.lt hx0)
 refine L36z_0 x0 out tk all.length _ k Z all (fun _ => .no) T ⟨fun e => ?_, fun e => ?_⟩
 ·have e : (k : Int) < ((all.length : Nat) : Int) := of_decide_eq_true e
  have hk' : k < all.length := by omega
  have hdr : all.drop k = all[k] :: all.drop (k + 1) := List.drop_eq_getElem_cons hk'
  have hg : all.getD (0 + ((k : Nat) : Int).toNat) 0 = all[k] := by simp [List.getD, hk']
  obtain ⟨lo, hlo⟩ := in2 all[k] (by rw [hdr]; exact List.mem_cons_self ..)
  refine ⟨rfl, by omega, e, rfl, by rw [Int.toNat_natCast]; omega, _, b0'.el, ?_⟩
  rw [hg]
  refine (c65 r2 hlo (s2 _ (mfind_mem hlo))).mono ?_
  rintro v X59 ⟨rfl, d3, r3, m3, hp3⟩
  have hnk : all[k] ∉ all.drop (k + 1) := by
   have := hnd.sublist (List.drop_sublist k all)
   rw [hdr, List.nodup_cons] at this
   exact this.1
  have nn : short d3.p := by rw [hp3]; exact nextP_short r2.nd s2
  have ni : ∀ o ∈ all.drop (k + 1), ∃ l, mfind (eqN o) d3.p.es = some l := fun o ho => by
   rw [hp3, nextP_other r2.nd (fun e => hnk (by rw [← e]; exact ho))]
   exact in2 o (by rw [hdr]; exact List.mem_cons_of_mem _ ho)
  have ne : leavePF all [] d.p = leavePF (all.drop (k + 1)) (if (nextP d2.p all[k]).1 > 0 then out ++ [(nextP d2.p all[k]).1] else out) d3.p := by
   rw [eq2, hdr, hp3]
   rfl
  have hw : IntKind.wrap .i64 ((k : Int) + (1 : Int)) = ((k + 1 : Nat) : Int) := wrap_succ (by omega)
  refine ⟨fun e4 => ⟨hfr.own, ?_, ?_⟩, fun e4 => ?_⟩
  ·show (out.length + 1) * 8 ≤ 140737488355328
   omega
  ·have e4 := of_decide_eq_true e4
   rw [hw]
   rw [if_pos e4] at ne
   exact Again.mk (k + 1, out ++ [(nextP d2.p all[k]).1], .tk T.n, X59, ⟨T.n + 1, T.n :: Tok.drop tk T.l⟩) rfl ⟨hk', Tok.fresh_new _ _, by show (out ++ [_]).length ≤ k + 1; simp; omega, d3, r3, m2.trans m3, nn, ni, ne⟩ (by show all.length - (k + 1) < all.length - k; omega)
  ·have e4 := of_decide_eq_false e4
   rw [hw]
   rw [if_neg e4] at ne
   exact Again.mk (k + 1, out, tk, X59, T) rfl ⟨hk', hfr, by show out.length ≤ k + 1; omega, d3, r3, m2.trans m3, nn, ni, ne⟩ (by show all.length - (k + 1) < all.length - k; omega)
 ·have e : ¬ (k : Int) < ((all.length : Nat) : Int) := of_decide_eq_false e
  have hk' : k = all.length := by omega
  rw [hk', List.drop_length] at eq2
  have eq2 : leavePF all [] d.p = (out, d2.p) := eq2
  have := hR Z ⟨d2, r2, m2, by rw [eq2]⟩
  rw [eq2] at this
  exact this

theorem c36 (h : MRep X t d) {th : Int} (hb : short d.p) (hf : Fit (stripP d.p th)) (hws : ∀ v, mfind (eqN th) d.p.ws = some v → ∃ l, mfind (eqN v) d.p.es = some l) :
  XC Try.prog 36 [.pure (.slice (.int .i64))] [.ref (some t) cT 0 [], .v (.int .i64 th)] X fun p X' => p = (leavePF (sortP (stripP d.p th) th) [] (stripP d.p th)).1 ∧ MGoes X t d X' (leavePF (sortP (stripP d.p th) th) [] (stripP d.p th)).2 := by
 refine xcOfZ (X := X36z) z36_ok rfl FN36z (by kernel_rfl) (by decide) (E36z X t th fun X1 e1 X2 e2 => ?_)
 have n1 : X1.n = X.n + 1 := by rw [e1]; rfl
 have n2 : X2.n = X.n + 2 := by rw [e2]; show X1.n + 1 = _; omega
 have m2 : Mv X (d.hs t) X2 (d.hs t) := by rw [e2, e1]; exact (mv_addO _ _ _).trans (mv_addO _ _ _)
 have m2' : Mv X [] X2 [] := by rw [e2, e1]; exact (mv_addO _ _ _).trans (mv_addO _ _ _)
 have h2 : MRep X2 t d := h.mv m2' fun k _ => by simp
 have b0 : Box X2 (.ref cT) X.n (some t) := by
  show X2.at X.n = _
  rw [e2, at_add_old (by omega), e1]; exact at_add_new _ _
 have b1 : Box X2 cN X1.n th := by
  show X2.at X1.n = _
  rw [e2]; exact at_add_new _ _
 have x0 : ∀ k, X.n ≤ k → k ∉ d.hs t := fun k hk q => by have := h.lt k q; omega
 refine ⟨_, b0.el, refK_iff.2 ⟨t, rfl, _, h2.box.el, _, b1.el, d.p.ws, mp_at.2 h2.mw, fun v hv => ⟨fun e => ?_, fun e => ?_⟩, fun hv => ⟨fun e => absurd e (by decide), fun _ => ?_⟩⟩⟩
 ·have hv : mfind (eqN th) d.p.ws = some v := hv
  have e := of_decide_eq_true e
  obtain ⟨l, hl⟩ := hws v hv
  have hsp : stripP d.p th = { d.p with es := updK d.p.es v (l.1, l.2.1, l.2.2.1, l.2.2.2.filter fun y => !(y == th)), ws := mdel (eqN th) d.p.ws } := by
   unfold stripP; rw [hv]; dsimp only; rw [if_pos e, hl]
  refine ⟨_, b0.el, refK_iff.2 ⟨t, rfl, _, h2.box.el, d.hes, mp_at.2 h2.mh, fun u hu => ?_, fun hu => ?_⟩⟩
  ·have hu : mfind (eqN v) d.hes = some u := hu
   rw [h2.find, hl] at hu
   have hu : some (d.h v) = u := Option.some.inj hu
   subst hu
   refine refK_iff.2 ⟨_, rfl, _, b1.el, (c67 h2 hl th (hb _ (mfind_mem hl))).mono ?_⟩
   rintro _ X17 ⟨d3, r3, m3, hp3⟩
   have b0' : Box X17 (.ref cT) X.n (some t) := b0.keep (m3.keep _ b0.lt (x0 _ (Nat.le_refl _)))
   have b1' : Box X17 cN X1.n th := b1.keep (m3.keep _ b1.lt (x0 _ (by omega)))
   have n3 : ∀ k ∈ d3.hs t, k ∈ d.hs t ∨ X2.n ≤ k := m3.own
   refine ⟨_, b0'.el, refK_iff.2 ⟨t, rfl, _, r3.box.el, _, b1'.el, d3.hW, d3.p.ws, rfl, mp_at.2 r3.mw, fun X24 e24 => ?_⟩⟩
   obtain ⟨a, b⟩ := r3.waits (mdel (eqN th) d3.p.ws)
   have e24 : X24 = X17.set d3.hW (.map (.int .i64) cN (mdel (eqN th) d3.p.ws)) := e24
   rw [← e24] at a b
   have nin : ∀ k, X.n ≤ k → k < X2.n → k ∉ d3.hs t := fun k hk hk2 q => (n3 k q).elim (x0 k hk) fun q => by omega
   have b0'' : Box X24 (.ref cT) X.n (some t) := b0'.keep (b.keep _ b0'.lt (nin _ (Nat.le_refl _) (by omega)))
   have b1'' : Box X24 cN X1.n th := b1'.keep (b.keep _ b1'.lt (nin _ (by omega) (by omega)))
   obtain ⟨d4, hd4⟩ : ∃ d4 : MD, d4 = { d3 with p := { d3.p with ws := mdel (eqN th) d3.p.ws } } := ⟨_, rfl⟩
   rw [← hd4] at a b
   have hp4 : d4.p = stripP d.p th := by rw [hd4]; dsimp only; rw [hp3, hsp]
   have n4 : d4.hs t = d3.hs t := by rw [hd4]; rfl
   rw [← hp4] at hf ⊢
   exact c36tail a hf b0'' b1'' (by rw [n4]; exact nin _ (Nat.le_refl _) (by omega)) fun Z ⟨d5, r5, m5, hp5⟩ => ⟨rfl, d5, r5, m2.trans (m3.trans (b.trans m5)), hp5⟩
  ·have hu : mfind (eqN v) d.hes = none := hu
   rw [h2.find, hl] at hu
   cases hu
 ·have hv : mfind (eqN th) d.p.ws = some v := hv
  have e := of_decide_eq_false e
  have hsp : stripP d.p th = d.p := by unfold stripP; rw [hv]; dsimp only; rw [if_neg e]
  rw [hsp] at hf ⊢
  exact c36tail h2 hf b0 b1 (x0 _ (Nat.le_refl _)) fun Z ⟨d5, r5, m5, hp5⟩ => ⟨rfl, d5, r5, m2.trans m5, hp5⟩
 ·have hv : mfind (eqN th) d.p.ws = none := hv
  have hsp : stripP d.p th = d.p := by unfold stripP; rw [hv]
  rw [hsp] at hf ⊢
  exact c36tail h2 hf b0 b1 (x0 _ (Nat.le_refl _)) fun Z ⟨d5, r5, m5, hp5⟩ => ⟨rfl, d5, r5, m2.trans m5, hp5⟩

end Go.Proofs.Ytefpoodhdfggdaa.AB

namespace Go.Proofs.Ytefpoodhdfggdaa.AB
open Go

variable {p : PD} {l : List RM} {T N : Nat} {o th : Int} {m m' : RM}

theorem filter_absent {q : List Int} (h : th ∉ q) : (q.filter fun z => z != th) = q := by
 rw [List.filter_eq_self]
 intro a ha
 simpa using fun e : a = th => h (by rw [← e]; exact ha)

theorem strip1_absent (h : th ∉ m.q) : strip1 th m = m := by
 unfold strip1; rw [filter_absent h]

theorem Cp.strip (h : Cp p l T) (th : Int) : Cp (stripP p th) (stripR l th) T := by
 unfold stripP
 cases hw : mfind (eqN th) p.ws with
 | none =>
  have : stripR l th = l := by
   unfold stripR
   refine (List.map_congr_left (g := id) fun y hy => strip1_absent fun q => ?_).trans (List.map_id _)
   rw [h.ws2 y hy th q] at hw; cases hw
  rw [this]
  exact h
 | some v =>
  dsimp only
  obtain ⟨m, hm, hmo, hmq⟩ := h.ws1 th v hw
  have hp := h.pos m hm
  rw [if_pos (by omega)]
  have hf : mfind (eqN v) p.es = some (pl m) := by rw [h.fnd, ← hmo, h.findOf hm]; rfl
  rw [hf]
  dsimp only
  have hone : ∀ y ∈ l, th ∈ y.q → y = m := fun y hy hq => by
   have := h.ws2 y hy th hq
   rw [hw] at this
   exact h.uniq hy hm ((Option.some.inj this).symm.trans hmo.symm)
  have hs : stripR l th = updR l (strip1 th m) := by
   unfold stripR updR
   refine List.map_congr_left fun y hy => ?_
   by_cases e : y.o = (strip1 th m).o
   ·rw [if_pos e, h.uniq hy hm e]
   ·rw [if_neg e]
    exact strip1_absent fun q => e (by rw [hone y hy q]; rfl)
  rw [hs, ← hmo]
  have hin : ∀ x ∈ (strip1 th m).q, x ∈ m.q ∧ x ≠ th := fun x hx => by
   obtain ⟨a, b⟩ := List.mem_filter.1 hx
   exact ⟨a, by simpa using b⟩
  have key := h.upd (m' := strip1 th m) hm rfl (ws := mdel (eqN th) p.ws) (T' := T) (Nat.le_refl _) (fun t u hu => ?_) (fun t ht => ?_) (fun y hy hne t ht => ?_) (mdel_nodup h.wnd _) ((h.qnd m hm).sublist List.filter_sublist)
   ⟨hp.2.2.1, fun t ht => hp.2.2.2 t (hin t ht).1⟩ (h.snc m hm) (fun y hy hne e => hne (h.sin y hy m hm e))
  ·rw [← h.turn] at key
   exact key
  ·rw [mfind_mdel h.wnd] at hu
   split at hu
   ·cases hu
   ·rename_i hne
    obtain ⟨y, hy, hyo, hyq⟩ := h.ws1 t u hu
    refine ⟨fun _ => ⟨y, hy, hyo, hyq⟩, fun hum => ?_⟩
    have := h.uniq hy hm (hyo.trans hum)
    subst this
    exact List.mem_filter.2 ⟨hyq, by simpa using hne⟩
  ·obtain ⟨a, b⟩ := hin t ht
   rw [mfind_mdel h.wnd, if_neg b]
   exact h.ws2 m hm t a
  ·rw [mfind_mdel h.wnd, if_neg (fun e => by
    subst e
    exact hne (by rw [hone y hy ht]))]
   exact h.ws2 y hy t ht

theorem sumQ_strip (l : List RM) (th : Int) : sumQ (stripR l th) ≤ sumQ l := by
 induction l with
 | nil => exact Nat.le_refl _
 | cons y r ih =>
  show sumQ (strip1 th y :: stripR r th) ≤ _
  rw [sumQ_cons, sumQ_cons]
  have : (strip1 th y).q.length ≤ y.q.length := List.length_filter_le _ _
  omega

theorem Cp.held (h : Cp p l T) : heldP p = l.map (·.o) := by
 have h1 : (heldP p).Perm (l.map (·.o)) := (List.mergeSort_perm (p.es.map fun e : Int × PL => e.1) leN).trans h.prm
 have tr : ∀ a b c : Int, leN a b = true → leN b c = true → leN a c = true := fun a b c h1 h2 => by
  have h1 := of_decide_eq_true h1
  have h2 := of_decide_eq_true h2
  exact decide_eq_true (by omega)
 have to : ∀ a b : Int, (leN a b || leN b a) = true := fun a b => by
  unfold leN
  simp only [Bool.or_eq_true, decide_eq_true_eq]
  omega
 refine h1.eq_of_pairwise (le := fun a b => leN a b = true) (fun a b _ _ h1 h2 => ?_) (List.pairwise_mergeSort tr to _) (h.srt.imp fun {a b} hab => decide_eq_true (by omega))
 have h1 := of_decide_eq_true h1
 have h2 := of_decide_eq_true h2
 omega

theorem Cp.own (h : Cp p l T) (hm : m ∈ l) : ownP p m.o = m.w ∧ sinceP p m.o = m.s + 1 := by
 have hf : mfind (eqN m.o) p.es = some (pl m) := by rw [h.fnd, h.findOf hm]; rfl
 constructor
 ·unfold ownP; rw [hf]; rfl
 ·unfold sinceP; rw [hf]; rfl

theorem holdsR_mem : o ∈ holdsR l th T ↔ ∃ m ∈ l, m.o = o ∧ m.w = th ∧ ∃ t < T, m.s = (t : Int) := by
 unfold holdsR ofTurn
 simp only [List.mem_flatMap, List.mem_range, List.mem_map, List.mem_filter, Bool.and_eq_true, beq_iff_eq]
 constructor
 ·rintro ⟨t, ht, m, ⟨hm, hw, hs⟩, rfl⟩
  exact ⟨m, hm, rfl, hw, t, ht, hs⟩
 ·rintro ⟨m, hm, rfl, hw, t, ht, hs⟩
  exact ⟨t, ht, m, ⟨hm, hw, hs⟩, rfl⟩

theorem ofTurn_mem {t : Nat} : o ∈ ofTurn l th t ↔ ∃ m ∈ l, m.o = o ∧ m.w = th ∧ m.s = (t : Int) := by
 unfold ofTurn
 simp only [List.mem_map, List.mem_filter, Bool.and_eq_true, beq_iff_eq]
 constructor
 ·rintro ⟨m, ⟨hm, hw, hs⟩, rfl⟩; exact ⟨m, hm, rfl, hw, hs⟩
 ·rintro ⟨m, hm, rfl, hw, hs⟩; exact ⟨m, ⟨hm, hw, hs⟩, rfl⟩

theorem Cp.holds_nodup (h : Cp p l T) (th : Int) (n : Nat) : (holdsR l th n).Nodup := by
 unfold holdsR
 rw [List.Nodup, List.pairwise_flatMap]
 refine ⟨fun t _ => h.nod.sublist (List.filter_sublist.map _), List.nodup_range.imp fun {a b} hab x hx y hy e => ?_⟩
 obtain ⟨m, hm, hmo, _, hms⟩ := ofTurn_mem.1 hx
 obtain ⟨m', hm', hmo', _, hms'⟩ := ofTurn_mem.1 hy
 have := h.uniq hm hm' (by rw [hmo, hmo', e])
 subst this
 omega

theorem Cp.holds_sorted (h : Cp p l T) (th : Int) (n : Nat) : (holdsR l th n).Pairwise fun a b => sinceP p a ≤ sinceP p b := by
 unfold holdsR
 rw [List.pairwise_flatMap]
 refine ⟨fun t _ => ?_, List.pairwise_lt_range.imp fun {a b} hab x hx y hy => ?_⟩
 ·refine List.Pairwise.imp_of_mem (R := fun _ _ => True) (fun {a b} ha hb _ => ?_) (List.pairwise_of_forall fun _ _ => trivial)
  obtain ⟨m, hm, hmo, _, hms⟩ := ofTurn_mem.1 ha
  obtain ⟨m', hm', hmo', _, hms'⟩ := ofTurn_mem.1 hb
  rw [← hmo, ← hmo', (h.own hm).2, (h.own hm').2]
  omega
 ·obtain ⟨m, hm, hmo, _, hms⟩ := ofTurn_mem.1 hx
  obtain ⟨m', hm', hmo', _, hms'⟩ := ofTurn_mem.1 hy
  rw [← hmo, ← hmo', (h.own hm).2, (h.own hm').2]
  omega

theorem Cp.sort (h : Cp p l T) (th : Int) : sortP p th = holdsR l th T := by
 have hnd : ((heldP p).filter fun o => decide (ownP p o = th)).Nodup := by
  rw [h.held]
  exact h.nod.sublist List.filter_sublist
 have hmem : ∀ x, x ∈ ((heldP p).filter fun o => decide (ownP p o = th)) ↔ x ∈ holdsR l th T := by
  intro x
  rw [h.held, holdsR_mem, List.mem_filter, List.mem_map]
  constructor
  ·rintro ⟨⟨m, hm, rfl⟩, hw⟩
   have hw := of_decide_eq_true hw
   rw [(h.own hm).1] at hw
   have hs := h.snc m hm
   exact ⟨m, hm, rfl, hw, m.s.toNat, by omega, by omega⟩
  ·rintro ⟨m, hm, rfl, hw, _⟩
   exact ⟨⟨m, hm, rfl⟩, decide_eq_true (by rw [(h.own hm).1]; exact hw)⟩
 have hp : (sortP p th).Perm (holdsR l th T) := (List.mergeSort_perm _ _).trans ((List.perm_ext_iff_of_nodup hnd (h.holds_nodup th T)).2 hmem)
 refine hp.eq_of_pairwise (le := fun a b => sinceP p a ≤ sinceP p b) (fun a b ha hb h1 h2 => ?_) ?_ (h.holds_sorted th T)
 ·obtain ⟨m, hm, hmo, _⟩ := holdsR_mem.1 (hp.mem_iff.1 ha)
  obtain ⟨m', hm', hmo', _⟩ := holdsR_mem.1 hb
  rw [← hmo, ← hmo', (h.own hm).2, (h.own hm').2] at h1 h2
  rw [← hmo, ← hmo']
  exact h.sin m hm m' hm' (by omega)
 ·refine (List.pairwise_mergeSort (le := fun a b => decide (sinceP p a ≤ sinceP p b)) (fun a b c h1 h2 => ?_) (fun a b => ?_) _).imp fun {a b} hab => of_decide_eq_true hab
  ·have h1 := of_decide_eq_true h1
   have h2 := of_decide_eq_true h2
   exact decide_eq_true (by omega)
  ·simp only [Bool.or_eq_true, decide_eq_true_eq]
   omega

theorem Cp.ent (h : Cp p l T) {e : Int × PL} (he : e ∈ p.es) : ∃ m ∈ l, e.1 = m.o ∧ e.2 = pl m := by
 have h1 : mfind (eqN e.1) p.es = some e.2 := mfind_of h.nd he
 rw [h.fnd] at h1
 cases hf : findR l e.1 with
 | none => rw [hf] at h1; cases h1
 | some m =>
  rw [hf] at h1
  obtain ⟨hm, hmo⟩ := findR_some hf
  exact ⟨m, hm, hmo.symm, (Option.some.inj h1).symm⟩

theorem Cb.up (h : Cb p l T N) : Cb p l T (N + 1) := by
 have h2 := h.wt
 have h3 := h.ln
 exact ⟨h.cp, by omega, fun m hm => by have := h.nb m hm; omega, by omega⟩

theorem Cb.fit (h : Cb p l T N) (hN : N ≤ 999) : Fit p := by
 have hT := h.wt
 refine ⟨fun e he => ?_, fun e he => ?_, ?_, fun e he => ?_, fun e he e' he' es => ?_⟩
 ·obtain ⟨m, hm, _, e2⟩ := h.cp.ent he
  rw [e2]
  have := h.nb m hm
  show m.q.length ≤ 1000000
  omega
 ·obtain ⟨m, hm, e1, _⟩ := h.cp.ent he
  have := h.cp.pos m hm
  omega
 ·have h1 := h.cp.prm.length_eq
  simp only [List.length_map] at h1
  have := h.ln
  omega
 ·obtain ⟨m, hm, _, e2⟩ := h.cp.ent he
  rw [e2]
  have := h.cp.snc m hm
  show 0 ≤ m.s + 1 ∧ m.s + 1 ≤ 1000000
  omega
 ·obtain ⟨m, hm, e1, e2⟩ := h.cp.ent he
  obtain ⟨m', hm', e1', e2'⟩ := h.cp.ent he'
  rw [e2, e2'] at es
  have es : m.s + 1 = m'.s + 1 := es
  rw [e1, e1']
  exact h.cp.sin m hm m' hm' (by omega)

theorem Cb.strip (h : Cb p l T N) (th : Int) : Cb (stripP p th) (stripR l th) T N := by
 have h1 := sumQ_strip l th
 have h2 := h.wt
 refine ⟨h.cp.strip th, by omega, fun y hy => ?_, by unfold stripR; rw [List.length_map]; exact h.ln⟩
 obtain ⟨m, hm, rfl⟩ := List.mem_map.1 hy
 obtain ⟨a, b, c⟩ := h.nb m hm
 exact ⟨a, b, Nat.le_trans (List.length_filter_le _ _) c⟩

theorem Cb.fold (hN : N ≤ 999) : ∀ (os : List Int) (out : List Int) {p : PD} {l : List RM} {T : Nat}, Cb p l T N → os.Nodup → (∀ o ∈ os, ∃ m ∈ l, m.o = o) →
  (leavePF os out p).1 = (leaveF os out l (T : Int)).1 ∧ ∃ T', Cb (leavePF os out p).2 (leaveF os out l (T : Int)).2.1 T' N ∧ (leaveF os out l (T : Int)).2.2 = (T' : Int)
 | [], out, p, l, T, h, _, _ => ⟨rfl, T, h, rfl⟩
 | o :: rs, out, p, l, T, h, hn, hin => by
  rw [List.nodup_cons] at hn
  obtain ⟨m, hf⟩ := findR_mem (hin o (List.mem_cons_self ..))
  obtain ⟨hm, hmo⟩ := findR_some hf
  subst hmo
  have hT := h.wt
  have hb := h.nb m hm
  obtain ⟨k1, T', k2, k3, k4, k5⟩ := h.cp.next hm (by omega)
  unfold leavePF leaveF
  rw [hf]
  simp only
  rw [k1, k5]
  refine Cb.fold hN rs _ ⟨k4, ?_, next_nb hm (fun y hy _ => h.nb y hy) hb.2.2 (by omega) _, Nat.le_trans nextS_len h.ln⟩ hn.2 fun o' ho' => nextS_other (fun e => hn.1 (by rw [← e]; exact ho')) (hin o' (List.mem_cons_of_mem _ ho'))
  have hsn := sumQ_next h.cp.nod hm (t := (T : Int))
  omega

theorem Cb.leave (h : Cb p l T N) (hN : N ≤ 999) (th : Int) : (leavePF (sortP (stripP p th) th) [] (stripP p th)).1 = (leaveS l (T : Int) th).1 ∧
  ∃ T', Cb (leavePF (sortP (stripP p th) th) [] (stripP p th)).2 (leaveS l (T : Int) th).2.1 T' (N + 1) ∧ (leaveS l (T : Int) th).2.2 = (T' : Int) := by
 have hs := h.strip th
 unfold leaveS
 rw [hs.cp.sort th, Int.toNat_natCast]
 obtain ⟨a, T', b, c⟩ := Cb.fold hN (holdsR (stripR l th) th T) [] hs (hs.cp.holds_nodup th T) fun o ho => by
  obtain ⟨m, hm, hmo, _⟩ := holdsR_mem.1 ho
  exact ⟨m, hm, hmo⟩
 exact ⟨a, T', b.up, c⟩

theorem Cb.ownerWaits (h : Cb p l T N) (o : Int) : ownerP p o = (match findR l o with | some m => ((m.w, m.n) : Int × Int) | none => ((0, 0) : Int × Int)) ∧ waitsP p o = (match findR l o with | some m => m.q | none => []) := by
 unfold ownerP waitsP
 rw [h.cp.fnd]
 cases findR l o with
 | none => exact ⟨rfl, rfl⟩
 | some m => exact ⟨rfl, rfl⟩

theorem Cb.lines (h : Cb p l T N) {th v : Int} (hv : mfind (eqN th) p.ws = some v) : ∃ x, mfind (eqN v) p.es = some x := by
 obtain ⟨m, hm, hmo, _⟩ := h.cp.ws1 th v hv
 rw [h.cp.fnd, ← hmo, h.cp.findOf hm]
 exact ⟨_, rfl⟩

end Go.Proofs.Ytefpoodhdfggdaa.AB

set_option maxRecDepth 100000
set_option maxHeartbeats 2000000
namespace Go.Proofs.Ytefpoodhdfggdaa.AB
open Go
noncomputable def X35h : Cx := ⟨tt, [], [], [], [(35, [(0, mkM 26 0 [0, 1, 5], 0)])], []⟩
theorem FN35h : fnsB Try.prog X35h.fns := (show True from trivial)
def M35h_0 : List Bool × Nat := (mkM 26 0 [0, 1, 5], 1)
def S35h_0 (a0 : List Int) (b1 : Option SlH) (i5 : Int) (hq0 : XH) (T : Toks) : St :=
  mkS 26 [(0, (.v (.list (.int .i64) a0 .no))), (1, (.sl (.pure (.int .i64)) b1)), (5, (.v (.int .i64 i5)))] [(some (.heap hq0))] T
noncomputable def B35h_0 : (Exit → St → Prop) → St → Prop := (awp X35h.tt (callN Try.prog X35h 0) (X35h.md 35) 1 (X35h.mk1 35) 0 (codeAt [1, 1, 0, 1, 0, 0] (bd Try.f35)))
noncomputable def K35h_0 (R : (Bool) → XH → Prop) : Exit → St → Prop := seqK ((awp X35h.tt (callN Try.prog X35h 0) (X35h.md 35) 1 (X35h.mk1 35) 0 (codeAt [1, 1, 1] (bd Try.f35))) (retK tt Try.f35.results.toList fun x s' => xfin [(.pure .bool)] R x ⟨[], s'.hp, s'.T⟩)) (retK tt Try.f35.results.toList fun x s' => xfin [(.pure .bool)] R x ⟨[], s'.hp, s'.T⟩)
noncomputable def Q35h_0 (R : (Bool) → XH → Prop) : Exit → St → Prop := (blockK 0 (K35h_0 R))
theorem E35h (X : XH) (a0 : (List Int)) (b1 : (Option SlH)) {R : (Bool) → XH → Prop} (h : (((((a0).length : Int) != (((slN b1) : Nat) : Int)) = true → R false X) ∧
 ((((a0).length : Int) != (((slN b1) : Nat) : Int)) = false → (Loops B35h_0 M35h_0 (Q35h_0 R)
  (S35h_0 a0 b1 (0 : Int) X ⟨0, []⟩))))) :
  fnK X35h.tt (callN Try.prog X35h 0) (X35h.md 35) (X35h.mk1 35) Try.f35 [(.v (.list (.int .i64) a0 .no)), (.sl (.pure (.int .i64)) b1)] ⟨[], [some (.heap X)], ⟨0, []⟩⟩ (xfin [(.pure .bool)] R) := Eq.mp (by kernel_rfl) h
theorem L35h_0 (a0 : List Int) (b1 : Option SlH) (i5 : Int) (hq0 : XH) (T : Toks) {R : (Bool) → XH → Prop} {k0 : St → Prop}
 (h : (((decide (i5 < ((a0).length : Int))) = true → (0 ≤ i5 ∧ i5 < ((a0).length : Int) ∧ (∃ (u1 : SlH), b1 = some u1 ∧ 0 ≤ i5 ∧ i5 < ((u1.len : Nat) : Int) ∧ (∃ (a2 : Int), XH.el hq0 (.pure (.int .i64)) u1.h ((u1.off + (i5).toNat)) = some a2 ∧ ((((a0.getD (i5).toNat 0) != a2) = true → R false hq0) ∧
 (((a0.getD (i5).toNat 0) != a2) = false → k0 (S35h_0 a0 b1 ((IntKind.wrap .i64 (i5 + (1 : Int)))) hq0 T))))))) ∧
 ((decide (i5 < ((a0).length : Int))) = false → R true hq0))) :
  B35h_0 (loopQ M35h_0 k0 (Q35h_0 R)) (S35h_0 a0 b1 i5 hq0 T) := Eq.mp (by kernel_rfl) h
end Go.Proofs.Ytefpoodhdfggdaa.AB

namespace Go.Proofs.Ytefpoodhdfggdaa.AB
open Go

variable {X X' : XH} {t : Nat} {d : MD} {o : Int} {l : PL}

theorem c36p (h : MRep X t d) (hb : short d.p) {th : Int} (hws : mfind (eqN th) d.p.ws = none) (hes : d.p.es = [(o, l)]) (hth : l.1 = th) (hr : -9223372036854775808 ≤ o ∧ o ≤ 9223372036854775807) (hs : 0 ≤ l.2.2.1 ∧ l.2.2.1 ≤ 1000000) :
  XC Try.prog 36 [.pure (.slice (.int .i64))] [.ref (some t) cT 0 [], .v (.int .i64 th)] X fun p X' => p = (if (nextP d.p o).1 > 0 then [(nextP d.p o).1] else []) ∧ MGoes X t d X' (nextP d.p o).2 := by
 have hsp : stripP d.p th = d.p := by unfold stripP; rw [hws]
 have hin : ∀ e ∈ d.p.es, e = (o, l) := fun e he => by rw [hes] at he; simpa using he
 have hheld : heldP d.p = [o] := by unfold heldP; rw [hes]; simp
 have ho : mfind (eqN o) d.p.es = some l := mfind_of h.nd (by rw [hes]; simp)
 have how : ownP d.p o = th := by unfold ownP; rw [ho]; exact hth
 have hsort : sortP d.p th = [o] := by unfold sortP; rw [hheld]; simp [how]
 have hf : Fit d.p := ⟨hb, fun e he => by rw [hin e he]; exact hr, by rw [hes]; show 1 ≤ 1000000; omega, fun e he => by rw [hin e he]; exact hs, fun e he e' he' _ => by rw [hin e he, hin e' he']⟩
 have := c36 h (th := th) hb (by rw [hsp]; exact hf) (fun v hv => by rw [hws] at hv; cases hv)
 rw [hsp, hsort] at this
 refine this.mono ?_
 rintro p X' ⟨rfl, hg⟩
 exact ⟨rfl, hg⟩

end Go.Proofs.Ytefpoodhdfggdaa.AB

set_option maxRecDepth 100000
set_option maxHeartbeats 2000000
namespace Go.Proofs.Ytefpoodhdfggdaa.AB
open Go
noncomputable def X28 : Cx := ⟨tt, [(35, [.cd .bool])], [(29, [(.ref yZ2)]), (31, [(.pure .bool), (.pure (.int .i64))]), (33, [(.pure (.int .i64)), (.pure (.int .i64))]), (36, [(.pure (.slice (.int .i64)))]), (38, [(.pure (.int .i64)), (.pure (.int .i64))]), (40, [(.pure (.slice (.int .i64)))]), (42, [(.pure (.slice (.int .i64)))])], [(28, [(1, 0, .xc), (4, 1, .xc), (5, 1, .xc), (6, 1, .xc), (7, 1, .xc), (8, 1, .xc), (11, 1, .xc), (12, 1, .rd), (13, 1, .xc), (14, 1, .rd), (15, 1, .rd), (16, 1, .xc), (17, 1, .xc), (18, 1, .rd)])], [], []⟩
theorem FN28 : fnsB Try.prog X28.fns := (show True from trivial)
theorem E28 {R : V → Prop} (h : (XC Try.prog 29 [(.ref yZ2)] [] XH.none (fun (p1 : (Option Nat)) (X2 : XH) => (((Option.isNone p1) = true → R (.bool false)) ∧
 ((Option.isNone p1) = false → (XC Try.prog 31 [(.pure .bool), (.pure (.int .i64))] [(.ref p1 yZ2 0 []), (.v (.int .i64 (5 : Int))), (.v (.int .i64 (1 : Int)))] X2 (fun (p3 : Bool × Int) (X4 : XH) => (XC Try.prog 31 [(.pure .bool), (.pure (.int .i64))] [(.ref p1 yZ2 0 []), (.v (.int .i64 (5 : Int))), (.v (.int .i64 (1 : Int)))] X4 (fun (p5 : Bool × Int) (X6 : XH) => (XC Try.prog 31 [(.pure .bool), (.pure (.int .i64))] [(.ref p1 yZ2 0 []), (.v (.int .i64 (5 : Int))), (.v (.int .i64 (2 : Int)))] X6 (fun (p7 : Bool × Int) (X8 : XH) => (XC Try.prog 31 [(.pure .bool), (.pure (.int .i64))] [(.ref p1 yZ2 0 []), (.v (.int .i64 (5 : Int))), (.v (.int .i64 (3 : Int)))] X8 (fun (p9 : Bool × Int) (X10 : XH) => (XC Try.prog 31 [(.pure .bool), (.pure (.int .i64))] [(.ref p1 yZ2 0 []), (.v (.int .i64 (6 : Int))), (.v (.int .i64 (2 : Int)))] X10 (fun (p11 : Bool × Int) (X12 : XH) => (((!p3.1) = true → R (.bool false)) ∧ ((!p3.1) = false → (((p3.2 != (0 : Int)) = true → R (.bool false)) ∧ ((p3.2 != (0 : Int)) = false → (((!p5.1) = true → R (.bool false)) ∧ ((!p5.1) = false → (((p5.2 != (0 : Int)) = true → R (.bool false)) ∧ ((p5.2 != (0 : Int)) = false → ((p7.1 = true → R (.bool false)) ∧ (p7.1 = false → (((p7.2 != (0 : Int)) = true → R (.bool false)) ∧ ((p7.2 != (0 : Int)) = false → ((p9.1 = true → R (.bool false)) ∧ (p9.1 = false → (((p9.2 != (0 : Int)) = true → R (.bool false)) ∧ ((p9.2 != (0 : Int)) = false → (((p11.2 != (25 : Int)) = true → R (.bool false)) ∧
 ((p11.2 != (25 : Int)) = false → (XC Try.prog 33 [(.pure (.int .i64)), (.pure (.int .i64))] [(.ref p1 yZ2 0 []), (.v (.int .i64 (5 : Int))), (.v (.int .i64 (1 : Int)))] X12 (fun (p13 : Int × Int) (X14 : XH) => (∃ (p15 : Int × Int), RC Try.prog 38 [(.pure (.int .i64)), (.pure (.int .i64))] [(.ref p1 yZ2 0 []), (.v (.int .i64 (5 : Int)))] X14 p15 ∧ (XC Try.prog 33 [(.pure (.int .i64)), (.pure (.int .i64))] [(.ref p1 yZ2 0 []), (.v (.int .i64 (5 : Int))), (.v (.int .i64 (1 : Int)))] X14 (fun (p16 : Int × Int) (X17 : XH) => (∃ (p18 : Int × Int), RC Try.prog 38 [(.pure (.int .i64)), (.pure (.int .i64))] [(.ref p1 yZ2 0 []), (.v (.int .i64 (5 : Int)))] X17 p18 ∧ (∃ (p19 : (List Int)), RC Try.prog 40 [(.pure (.slice (.int .i64)))] [(.ref p1 yZ2 0 []), (.v (.int .i64 (5 : Int)))] X17 p19 ∧ (∃ p20 : Bool, PC Try.prog 35 [(.list (.int .i64) p19 .no), (.list (.int .i64) (([(3 : Int)] : List Int)) .no)] (.bool p20) ∧ (XC Try.prog 33 [(.pure (.int .i64)), (.pure (.int .i64))] [(.ref p1 yZ2 0 []), (.v (.int .i64 (5 : Int))), (.v (.int .i64 (1 : Int)))] X17 (fun (p21 : Int × Int) (X22 : XH) => (XC Try.prog 36 [(.pure (.slice (.int .i64)))] [(.ref p1 yZ2 0 []), (.v (.int .i64 (2 : Int)))] X22 (fun (p23 : (List Int)) (X24 : XH) => (∃ p25 : Bool, PC Try.prog 35 [(.list (.int .i64) p23 .no), (.list (.int .i64) (([(3 : Int)] : List Int)) .no)] (.bool p25) ∧ (∃ (p26 : (List Int)), RC Try.prog 42 [(.pure (.slice (.int .i64)))] [(.ref p1 yZ2 0 [])] X24 p26 ∧ (∃ p27 : Bool, PC Try.prog 35 [(.list (.int .i64) p26 .no), (.list (.int .i64) (([(5 : Int)] : List Int)) .no)] (.bool p27) ∧ (((p13.1 == (0 : Int)) = true → (((p13.2 == (0 : Int)) = true → (((p15.1 == (1 : Int)) = true → (((p15.2 == (1 : Int)) = true → (((p16.1 == (2 : Int)) = true → (((p16.2 == (0 : Int)) = true → (((p18.1 == (2 : Int)) = true → (((p18.2 == (1 : Int)) = true → ((p20 = true → (((p21.2 == (25 : Int)) = true → ((p25 = true → R (.bool p27)) ∧ (p25 = false → R (.bool false)))) ∧ ((p21.2 == (25 : Int)) = false → R (.bool false)))) ∧ (p20 = false → R (.bool false)))) ∧ ((p18.2 == (1 : Int)) = false → R (.bool false)))) ∧ ((p18.1 == (2 : Int)) = false → R (.bool false)))) ∧ ((p16.2 == (0 : Int)) = false → R (.bool false)))) ∧ ((p16.1 == (2 : Int)) = false → R (.bool false)))) ∧ ((p15.2 == (1 : Int)) = false → R (.bool false)))) ∧ ((p15.1 == (1 : Int)) = false → R (.bool false)))) ∧ ((p13.2 == (0 : Int)) = false → R (.bool false)))) ∧ ((p13.1 == (0 : Int)) = false → R (.bool false))))))))))))))))))))))))))))))))))))))))))))))))))) :
  fnK X28.tt (callN Try.prog X28 0) (X28.md 28) (X28.mk1 28) Try.f28 [] ⟨[], [some (.heap XH.none)], ⟨0, []⟩⟩ (topK R) := Eq.mp (by kernel_rfl) h
end Go.Proofs.Ytefpoodhdfggdaa.AB

set_option maxRecDepth 100000
set_option maxHeartbeats 2000000
namespace Go.Proofs.Ytefpoodhdfggdaa.AB
open Go
noncomputable def X30 : Cx := ⟨tt, [], [], [], [], []⟩
theorem FN30 : fnsB Try.prog X30.fns := (show True from trivial)
theorem E30 (c0 : Int) (n1 : Int) {R : V → Prop} (h : (((decide (c0 < (0 : Int))) = true → (n1 ≠ 0 ∧ R (.int .i64 ((Int.tmod (IntKind.wrap .i64 (0 - (IntKind.wrap .i64 (c0 + (1 : Int))))) n1))))) ∧
 ((decide (c0 < (0 : Int))) = false → (n1 ≠ 0 ∧ R (.int .i64 (Int.tmod c0 n1)))))) :
  fnK X30.tt (callN Try.prog X30 0) (X30.md 30) (X30.mk1 30) Try.f30 [(.v (.int .i64 c0)), (.v (.int .i64 n1))] ⟨[], [], ⟨0, []⟩⟩ (topK R) := Eq.mp (by kernel_rfl) h
end Go.Proofs.Ytefpoodhdfggdaa.AB

set_option maxRecDepth 100000
set_option maxHeartbeats 2000000
namespace Go.Proofs.Ytefpoodhdfggdaa.AB
open Go
noncomputable def X35 : Cx := ⟨tt, [], [], [], [(35, [(0, mkM 26 0 [0, 1, 5], 0)])], []⟩
theorem FN35 : fnsB Try.prog X35.fns := (show True from trivial)
def M35_0 : List Bool × Nat := (mkM 26 0 [0, 1, 5], 0)
def S35_0 (a0 : List Int) (b1 : List Int) (i5 : Int) (T : Toks) : St :=
  mkS 26 [(0, (.v (.list (.int .i64) a0 .no))), (1, (.v (.list (.int .i64) b1 .no))), (5, (.v (.int .i64 i5)))] [] T
noncomputable def B35_0 : (Exit → St → Prop) → St → Prop := (awp X35.tt (callN Try.prog X35 0) (X35.md 35) 0 (X35.mk1 35) 0 (codeAt [1, 1, 0, 1, 0, 0] (bd Try.f35)))
noncomputable def K35_0 (R : V → Prop) : Exit → St → Prop := seqK ((awp X35.tt (callN Try.prog X35 0) (X35.md 35) 0 (X35.mk1 35) 0 (codeAt [1, 1, 1] (bd Try.f35))) (retK tt Try.f35.results.toList fun x s' => topK R x ⟨[], s'.hp, s'.T⟩)) (retK tt Try.f35.results.toList fun x s' => topK R x ⟨[], s'.hp, s'.T⟩)
noncomputable def Q35_0 (R : V → Prop) : Exit → St → Prop := (blockK 0 (K35_0 R))
theorem E35 (a0 : (List Int)) (b1 : (List Int)) {R : V → Prop} (h : (((((a0).length : Int) != ((b1).length : Int)) = true → R (.bool false)) ∧
 ((((a0).length : Int) != ((b1).length : Int)) = false → (Loops B35_0 M35_0 (Q35_0 R)
  (S35_0 a0 b1 (0 : Int) ⟨0, []⟩))))) :
  fnK X35.tt (callN Try.prog X35 0) (X35.md 35) (X35.mk1 35) Try.f35 [(.v (.list (.int .i64) a0 .no)), (.v (.list (.int .i64) b1 .no))] ⟨[], [], ⟨0, []⟩⟩ (topK R) := Eq.mp (by kernel_rfl) h
theorem L35_0 (a0 : List Int) (b1 : List Int) (i5 : Int) (T : Toks) {R : V → Prop} {k0 : St → Prop}
 (h : (((decide (i5 < ((a0).length : Int))) = true → (0 ≤ i5 ∧ i5 < ((a0).length : Int) ∧ (0 ≤ i5 ∧ i5 < ((b1).length : Int) ∧ ((((a0.getD (i5).toNat 0) != (b1.getD (i5).toNat 0)) = true → R (.bool false)) ∧
 (((a0.getD (i5).toNat 0) != (b1.getD (i5).toNat 0)) = false → k0 (S35_0 a0 b1 ((IntKind.wrap .i64 (i5 + (1 : Int)))) T)))))) ∧
 ((decide (i5 < ((a0).length : Int))) = false → R (.bool true)))) :
  B35_0 (loopQ M35_0 k0 (Q35_0 R)) (S35_0 a0 b1 i5 T) := Eq.mp (by kernel_rfl) h
end Go.Proofs.Ytefpoodhdfggdaa.AB

namespace Go.Proofs.Ytefpoodhdfggdaa.AB
open Go

theorem p30 (c n : Int) (hc : -9223372036854775808 ≤ c ∧ c ≤ 9223372036854775807) (hn : n ≠ 0) :
  PC Try.prog 30 [.int .i64 c, .int .i64 n] (.int .i64 (Int.tmod (if c < 0 then -(c + 1) else c) n)) := by
 refine pcOf (X := X30) (d := 0) rfl FN30 (by kernel_rfl) (by decide) (E30 c n ⟨fun h => ⟨hn, ?_⟩, fun h => ⟨hn, ?_⟩⟩)
 ·have h := of_decide_eq_true h
  rw [wrap64 (x := c + 1) (by omega) (by omega), wrap64 (by omega) (by omega), if_pos h, show (0 : Int) - (c + 1) = -(c + 1) by omega]
  exact ⟨rfl, rfl⟩
 ·have h := of_decide_eq_false h
  rw [if_neg (by omega)]
  exact ⟨rfl, rfl⟩

def pickR (c : Int) (n : Nat) : Nat := (Int.tmod (if c < 0 then -(c + 1) else c) n).toNat

theorem pickR_lt (c : Int) {n : Nat} (hn : 0 < n) : pickR c n < n ∧ Int.tmod (if c < 0 then -(c + 1) else c) n = (pickR c n : Nat) := by
 unfold pickR
 have hx : 0 ≤ (if c < 0 then -(c + 1) else c) := by split <;> omega
 rw [Int.tmod_eq_emod_of_nonneg hx]
 have h1 := Int.emod_nonneg (if c < 0 then -(c + 1) else c) (show (n : Int) ≠ 0 by omega)
 have h2 := Int.emod_lt_of_pos (if c < 0 then -(c + 1) else c) (show (0 : Int) < n by omega)
 omega

theorem pick_ok (c : Int) {n : Nat} (hc : -9223372036854775808 ≤ c ∧ c ≤ 9223372036854775807) (hn : 0 < n) : PC Try.prog 30 [.int .i64 c, .int .i64 (n : Int)] (.int .i64 (pickR c n : Nat)) := by
 have := p30 c n hc (by omega)
 rwa [(pickR_lt c hn).2] at this

theorem retB {a b : Bool} (h : a = b) : V.norm (.bool a) = .bool b ∧ (V.bool b).nt = true := by subst h; exact ⟨rfl, rfl⟩

theorem beq_take_succ {α : Type} [BEq α] [LawfulBEq α] {a b : List α} {n : Nat} {d : α} (h : a.take n = b.take n) (hn : n < a.length) (hm : n < b.length) (he : (a.getD n d == b.getD n d) = true) : a.take (n + 1) = b.take (n + 1) := by
 have he := eq_of_beq he
 rw [List.take_succ_eq_append_getElem hn, List.take_succ_eq_append_getElem hm, h]
 simp only [List.getD, List.getElem?_eq_getElem hn, List.getElem?_eq_getElem hm, Option.getD_some] at he
 rw [he]

theorem p35 (a b : List Int) (ha : a.length ≤ 9223372036854775807) : PC Try.prog 35 [.list (.int .i64) a .no, .list (.int .i64) b .no] (.bool (a == b)) := by
 refine pcOf (X := X35) (d := 0) rfl FN35 (by kernel_rfl) (by decide) (E35 a b ⟨fun h => ?_, fun h => ?_⟩)
 ·have hne : a ≠ b := by rintro rfl; simp at h
  exact retB (by simpa using hne)
 ·have hl : a.length = b.length := by
   have : (a.length : Int) = b.length := by simpa using h
   omega
  refine Loops.intro (fun n : Nat => S35_0 a b n ⟨0, []⟩) (fun n => n ≤ a.length ∧ a.take n = b.take n) (fun n => a.length - n) 0 rfl ⟨Nat.zero_le _, rfl⟩ ?_
  rintro n ⟨hn, ht⟩
  refine L35_0 a b n ⟨0, []⟩ ⟨fun h => ?_, fun h => ?_⟩
  ·have hlt : n < a.length := by simpa using h
   refine ⟨by omega, by omega, by omega, by omega, fun h => ?_, fun h => ?_⟩
   ·have hne : a ≠ b := by rintro rfl; simp at h
    exact retB (by simpa using hne)
   ·rw [wrap64 (by omega) (by omega)]
    refine Again.mk (n + 1) rfl ⟨by omega, beq_take_succ (d := 0) ht hlt (by omega) ?_⟩ (by omega)
    rw [Int.toNat_natCast] at h
    have : a.getD n 0 = b.getD n 0 := by simpa using h
    rw [this]; exact beq_self_eq_true _
  ·have hge : n = a.length := by
    have : ¬ ((n : Int) < a.length) := by simpa using h
    omega
   have : a = b := by
    rw [hge, List.take_length] at ht
    rw [hl, List.take_length] at ht
    exact ht
   subst this
   exact retB (by simp)


def P1 : PD := ⟨[(5, (1, 1, 1, []))], [], 1⟩
def P2 : PD := ⟨[(5, (1, 2, 1, []))], [], 1⟩
def P3 : PD := ⟨[(5, (1, 2, 1, [2]))], [(2, 5)], 1⟩
def P4 : PD := ⟨[(5, (1, 2, 1, [2, 3]))], [(2, 5), (3, 5)], 1⟩
def P5 : PD := ⟨[(5, (1, 1, 1, [2, 3]))], [(2, 5), (3, 5)], 1⟩
def P6 : PD := ⟨[(5, (2, 1, 2, [3]))], [(3, 5)], 2⟩
def P7 : PD := ⟨[(5, (3, 1, 3, []))], [], 3⟩

theorem no_wait {p : PD} {th : Int} (h : mfind (eqN th) p.ws = none) : ¬ ∃ v, mfind (eqN th) p.ws = some v ∧ 0 < v := by
 rintro ⟨v, hv, _⟩
 rw [h] at hv; cases hv

theorem e1 : enterP ⟨[], [], 0⟩ 5 1 = ((true, 0), P1) := by
 unfold enterP; rw [if_neg (by decide), if_neg (no_wait rfl)]; rfl
theorem e2 : enterP P1 5 1 = ((true, 0), P2) := by
 unfold enterP; rw [if_neg (by decide), if_neg (no_wait rfl)]; rfl
theorem e3 : enterP P2 5 2 = ((false, 0), P3) := by
 unfold enterP; rw [if_neg (by decide), if_neg (no_wait rfl)]; rfl
theorem e4 : enterP P3 5 3 = ((false, 0), P4) := by
 unfold enterP; rw [if_neg (by decide), if_neg (no_wait rfl)]; rfl
theorem e5 : enterP P4 6 2 = ((false, 25), P4) := by
 unfold enterP; rw [if_neg (by decide), if_pos ⟨5, rfl, by decide⟩]
theorem e6 : exitP P4 5 1 = ((0, 0), P5) := rfl
theorem e7 : exitP P5 5 1 = ((2, 0), P6) := rfl
theorem e8 : exitP P6 5 1 = ((0, 25), P6) := rfl
theorem e9 : nextP P6 5 = (3, P7) := rfl

theorem shortOf {p : PD} (h : (p.es.all fun e => decide (e.2.2.2.2.length ≤ 1000000)) = true) : short p := fun e he => of_decide_eq_true (List.all_eq_true.1 h e he)

theorem MGoes.at {X : XH} {t : Nat} {d : MD} {X' : XH} {p : PD} (h : MGoes X t d X' p) : ∃ d', MRep X' t d' ∧ d'.p = p := let ⟨d', h1, _, h3⟩ := h; ⟨d', h1, h3⟩

theorem p28 : PC Try.prog 28 [] (.bool true) := by
 refine lawOf (X := X28) rfl FN28 (by kernel_rfl) (by decide) (E28 (c29.mono ?_))
 rintro p1 X2 ⟨t, d, rfl, r0, _, h0⟩
 have sh : ∀ p : PD, (∀ e ∈ p.es, e.2.2.2.2.length ≤ 1000000) → short p := fun p h => h
 refine ⟨fun e => (by cases e), fun _ => ?_⟩
 refine (c31 r0 (by rw [h0]; intro e he; cases he) 5 1).mono ?_
 rintro p3 X4 ⟨hp3, hg⟩
 rw [h0, e1] at hp3 hg
 obtain ⟨d1, r1, h1⟩ := hg.at
 refine (c31 r1 (shortOf (by rw [h1]; rfl)) 5 1).mono ?_
 rintro p5 X6 ⟨hp5, hg⟩
 rw [h1, e2] at hp5 hg
 obtain ⟨d2, r2, h2⟩ := hg.at
 refine (c31 r2 (shortOf (by rw [h2]; rfl)) 5 2).mono ?_
 rintro p7 X8 ⟨hp7, hg⟩
 rw [h2, e3] at hp7 hg
 obtain ⟨d3, r3, h3⟩ := hg.at
 refine (c31 r3 (shortOf (by rw [h3]; rfl)) 5 3).mono ?_
 rintro p9 X10 ⟨hp9, hg⟩
 rw [h3, e4] at hp9 hg
 obtain ⟨d4, r4, h4⟩ := hg.at
 refine (c31 r4 (shortOf (by rw [h4]; rfl)) 6 2).mono ?_
 rintro p11 X12 ⟨hp11, hg⟩
 rw [h4, e5] at hp11 hg
 obtain ⟨d5, r5, h5⟩ := hg.at
 subst hp3 hp5 hp7 hp9 hp11
 refine ⟨fun e => absurd e (by decide), fun _ => ⟨fun e => absurd e (by decide), fun _ => ⟨fun e => absurd e (by decide), fun _ => ⟨fun e => absurd e (by decide), fun _ => ⟨fun e => absurd e (by decide), fun _ => ⟨fun e => absurd e (by decide), fun _ =>
  ⟨fun e => absurd e (by decide), fun _ => ⟨fun e => absurd e (by decide), fun _ => ⟨fun e => absurd e (by decide), fun _ => ?_⟩⟩⟩⟩⟩⟩⟩⟩⟩
 refine (c33 r5 (shortOf (by rw [h5]; rfl)) 5 1).mono ?_
 rintro p13 X14 ⟨hp13, hg⟩
 rw [h5, e6] at hp13 hg
 obtain ⟨d6, r6, h6⟩ := hg.at
 refine ⟨_, c38 r6 5, (c33 r6 (shortOf (by rw [h6]; rfl)) 5 1).mono ?_⟩
 rintro p16 X17 ⟨hp16, hg⟩
 rw [h6, e7] at hp16 hg
 obtain ⟨d7, r7, h7⟩ := hg.at
 have hs7 : short d7.p := shortOf (by rw [h7]; rfl)
 refine ⟨_, c38 r7 5, _, c40 r7 hs7 5, _, p35 _ [3] (by rw [h7]; show 1 ≤ 9223372036854775807; omega), (c33 r7 hs7 5 1).mono ?_⟩
 rintro p21 X22 ⟨hp21, hg⟩
 rw [h7, e8] at hp21 hg
 obtain ⟨d8, r8, h8⟩ := hg.at
 refine (c36p (o := 5) (l := (2, 1, 2, [3])) r8 (shortOf (by rw [h8]; rfl)) (by rw [h8]; rfl) (by rw [h8]; rfl) rfl (by decide) (by decide)).mono ?_
 rintro p23 X24 ⟨hp23, hg⟩
 rw [h8, e9] at hp23 hg
 obtain ⟨d9, r9, h9⟩ := hg.at
 have hheld : heldP d9.p = [5] := by unfold heldP; rw [h9]; simp [P7]
 have c := c42 r9 (by rw [h9]; decide) (by rw [h9]; show 1 < 2000000; omega)
 rw [hheld] at c
 subst hp13 hp16 hp21 hp23
 rw [h6, h7]
 refine ⟨_, p35 _ [3] (by decide), [5], c, _, p35 [5] [5] (by decide), fun _ => ⟨fun _ => ⟨fun _ => ⟨fun _ => ⟨fun _ => ⟨fun _ => ⟨fun _ => ⟨fun _ => ⟨fun _ => ⟨fun _ => ⟨fun _ => ⟨rfl, rfl⟩, fun e => absurd e (by decide)⟩, fun e => absurd e (by decide)⟩, fun e => absurd e (by decide)⟩, fun e => absurd e (by decide)⟩, fun e => absurd e (by decide)⟩,
  fun e => absurd e (by decide)⟩, fun e => absurd e (by decide)⟩, fun e => absurd e (by decide)⟩, fun e => absurd e (by decide)⟩, fun e => absurd e (by decide)⟩, fun e => absurd e (by decide)⟩

end Go.Proofs.Ytefpoodhdfggdaa.AB

namespace Go.Proofs.Ytefpoodhdfggdaa.AB
open Go

variable {X X' : XH} {t r : Nat} {d : MD} {dR : RD} {o th : Int}

theorem sh35 {b : Option SlH} {w : List Int} (hs : SlAt X cN b w) (hl : w.length ≤ 1000000) : RC Try.prog 35 [.pure .bool] [.v (.list (.int .i64) w .no), .sl cN b] X true := by
 have hlen := hs.len
 refine xcOf (X := X35h) rfl FN35h (by kernel_rfl) (by decide) (E35h X w b ⟨fun e => ?_, fun e => ?_⟩)
 ·rw [hlen] at e; simp at e
 refine Loops.intro (fun i : Nat => S35h_0 w b (i : Int) X ⟨0, []⟩) (fun i => i ≤ w.length) (fun i => w.length - i) 0 rfl (Nat.zero_le _) ?_
 intro i hi
 refine L35h_0 w b i X ⟨0, []⟩ ⟨fun e1 => ?_, fun _ => ⟨rfl, rfl⟩⟩
 have e1 := of_decide_eq_true e1
 have hi' : i < w.length := by omega
 obtain ⟨s, rfl⟩ : ∃ s, b = some s := by
  cases b with
  | none => simp [slN] at hlen; omega
  | some s => exact ⟨s, rfl⟩
 have hlen : s.len = w.length := hlen
 have hel : X.el cN s.h (s.off + ((i : Nat) : Int).toNat) = some w[i] := by rw [Int.toNat_natCast]; exact hs.el hi'
 refine ⟨by omega, e1, s, rfl, by omega, by omega, _, hel, fun e3 => ?_, fun _ => ?_⟩
 ·simp [List.getD, hi'] at e3
 ·rw [wrap64 (by omega) (by omega)]
  exact Again.mk (i + 1) rfl (by omega) (by omega)

structure Both (X : XH) (t r : Nat) (d : MD) (dR : RD) : Prop where
 mr : MRep X t d
 rr : RRep X r dR
 dj : ∀ k ∈ d.hs t, k ∉ dR.ks r

theorem Both.prog (b : Both X t r d dR) {p : PD} (g : MGoes X t d X' p) : ∃ d', Both X' t r d' dR ∧ d'.p = p := by
 obtain ⟨d', r', m', hp⟩ := g
 refine ⟨d', ⟨r', b.rr.mv m' fun k hk q => b.dj k q hk, fun k hk q => ?_⟩, hp⟩
 rcases m'.own k hk with h | h
 ·exact b.dj k h q
 ·have := b.rr.lt k q; omega

theorem Both.ref (b : Both X t r d dR) {l : List RM} {n : Int} (g : RGoes X r dR X' l n) : ∃ dR', Both X' t r d dR' ∧ dR'.l = l ∧ dR'.turn = n := by
 obtain ⟨d', r', m', hp, hn⟩ := g
 refine ⟨d', ⟨b.mr.mv m' b.dj, r', fun k hk q => ?_⟩, hp, hn⟩
 rcases m'.own k q with h | h
 ·exact b.dj k hk h
 ·have := b.mr.lt k hk; omega

theorem Cb.zero : Cb ⟨[], [], 0⟩ [] 0 0 := by
 refine ⟨⟨rfl, List.Pairwise.nil, fun o => rfl, List.nodup_nil, List.Perm.refl _, fun th v hv => (by cases hv), fun m hm => (by cases hm), List.nodup_nil, fun m hm => (by cases hm), fun m hm => (by cases hm), fun m hm => (by cases hm), fun m hm => (by cases hm)⟩, Nat.le_refl _, fun m hm => (by cases hm), Nat.le_refl _⟩

theorem refNew (r : Nat) (hr : r = X.n) : RRep (X.add (.arr cRT [((none : Option SlH), (0 : Int))])) r ⟨none, [], 0⟩ :=
 ⟨by subst hr; exact at_add_new _ _, rfl, fun e he => (by cases he), fun q => (by cases q), fun e he => (by cases he), List.Pairwise.nil⟩

theorem awp_block {tt : TT} {call : CallP} {md : Mds} {h0 b : Nat} {msk : Nat → List Bool × Nat} {c x : Code} {k : Nat} {Q : Exit → St → Prop} {s : St} (hc : c = .block k x)
  (h : awp tt call md h0 msk k x (blockK k Q) s) : awp tt call md h0 msk b c Q s := by subst hc; exact h

theorem Cb.small {p : PD} {l : List RM} {T N : Nat} (h : Cb p l T N) (hN : N ≤ 999) : (∀ m ∈ l, m.q.length ≤ 1000) ∧ l.length ≤ 1000 ∧ T ≤ 1000 := by
 have h2 := h.wt
 have h3 := h.ln
 exact ⟨fun m hm => by have := h.nb m hm; omega, by omega, by omega⟩

end Go.Proofs.Ytefpoodhdfggdaa.AB

