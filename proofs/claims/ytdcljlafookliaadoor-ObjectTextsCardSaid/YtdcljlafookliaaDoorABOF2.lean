/- Parts of the proof: what functions of the program compute, on plain values. -/
import Derived.Test.YtdcljlafookliaaDoorABOF1
import Derived.Test.YtdcljlafookliaaDoorABx4
import Derived.Maps.OwnSet
import Derived.Test.YtdcljlafookliaaDoorProg
import Derived.KernelRfl
import Derived.Lib.RuneBytes
import Derived.Shelf.Unicode.ValidAny
import Derived.Laws.IdiomStrings
import Derived.WalkMore
import Derived.Lib.MapLaws
import Derived.Lib.ValidLaws
set_option linter.unusedVariables false
set_option linter.unusedSimpArgs false
namespace Go.Proofs.YtdcljlafookliaaDoor.AB
open Go

variable {X X' : XH} {t : Nat} {d : AD}

def sizeAt (bs : List Bl) (a : Int) : Option Nat :=
 match (walk 1 bs).find? fun x => decide ((x.1 : Int) = a) && x.2.2 with
 | some x => some x.2.1
 | none => none

theorem sizeAt_some {bs : List Bl} (hz : sz2 bs) {a : Int} {s : Nat} : sizeAt bs a = some s ↔ ∃ p : Nat,a = (p : Int) ∧ (p,s,true) ∈ walk 1 bs := by
 unfold sizeAt
 cases hf : (walk 1 bs).find? (fun x => decide ((x.1 : Int) = a) && x.2.2) with
 | none =>
  constructor
  ·intro h; cases h
  ·rintro ⟨p,rfl,hm⟩
   have := List.find?_eq_none.1 hf _ hm
   simp at this
 | some x =>
  obtain ⟨q,s',u⟩ := x
  have h1 := List.find?_some hf
  have h2 := List.mem_of_find?_eq_some hf
  simp only [Bool.and_eq_true,decide_eq_true_eq] at h1
  obtain ⟨rfl,h1⟩ := h1
  subst h1
  constructor
  ·intro h
   cases h
   exact ⟨q,rfl,h2⟩
  ·rintro ⟨p,e,hm⟩
   have : q = p := by omega
   subst this
   rw [(walk_inj hz h2 hm).1]

theorem sizeAt_none {bs : List Bl} (hz : sz2 bs) {a : Int} : sizeAt bs a = none ↔ ∀ p s : Nat,(p,s,true) ∈ walk 1 bs → a ≠ (p : Int) := by
 constructor
 ·intro h p s hm e
  rw [(sizeAt_some hz).2 ⟨p,e,hm⟩] at h; cases h
 ·intro h
  cases hs : sizeAt bs a with
  | none => rfl
  | some s =>
   obtain ⟨p,e,hm⟩ := (sizeAt_some hz).1 hs
   exact absurd e (h p s hm)

theorem DOK.find {bs : List Bl} (hd : DOK d bs) (a : Int) : mfind (eqI a) d.T = (sizeAt bs a).map fun s => (s : Int) := by
 cases hs : sizeAt bs a with
 | some s =>
  obtain ⟨p,rfl,hm⟩ := (sizeAt_some hd.w.sz).1 hs
  exact (mfind_iff hd.nd).2 ((hd.t _ _).2 ⟨p,s,rfl,rfl,hm⟩)
 | none =>
  have := (sizeAt_none hd.w.sz).1 hs
  refine (mfind_none_iff hd.nd).2 fun v hv => ?_
  obtain ⟨p,s,e,_,hm⟩ := (hd.t _ _).1 hv
  exact this p s hm e

theorem sizeAt_bd {bs : List Bl} {W : List Int} (h : WOK W bs) {a : Int} {s : Nat} (hs : sizeAt bs a = some s) : ∃ p : Nat,a = (p : Int) ∧ (p,s,true) ∈ walk 1 bs ∧ 1 ≤ p ∧ 2 ≤ s ∧ p + s ≤ W.length := by
 obtain ⟨p,e,hm⟩ := (sizeAt_some h.sz).1 hs
 exact ⟨p,e,hm,h.bd hm⟩

def placeR (bs : List Bl) (a i : Int) : Int × Int :=
 match sizeAt bs a with
 | none => (0,24)
 | some s => if i < 0 then (0,1) else if i ≥ (s : Int) - 1 then (0,1) else (a + 1 + i,0)

theorem place_ok {bs : List Bl} {W : List Int} (h : WOK W bs) (a i : Int) : (placeR bs a i = (0,24) ∨ placeR bs a i = (0,1)) ∨ ∃ (p s j : Nat),a = (p : Int) ∧ i = (j : Int) ∧ (p,s,true) ∈ walk 1 bs ∧ j + 1 < s ∧ placeR bs a i = (((p + 1 + j : Nat) : Int),0) ∧ p + s ≤ W.length ∧ 1 ≤ p := by
 unfold placeR
 cases hs : sizeAt bs a with
 | none => exact .inl (.inl rfl)
 | some s =>
  obtain ⟨p,rfl,hm,h1,h2,h3⟩ := sizeAt_bd h hs
  dsimp only
  split
  ·exact .inl (.inr rfl)
  ·split
   ·exact .inl (.inr rfl)
   ·obtain ⟨j,rfl⟩ : ∃ j : Nat,i = j := ⟨i.toNat,by omega⟩
    exact .inr ⟨p,s,j,rfl,rfl,hm,by omega,Prod.ext (by simp only; omega) rfl,h3,h1⟩

theorem c48 (h : Rep X t d) {bs : List Bl} (hd : DOK d bs) (a i : Int) : RC Tryd.prog 48 [.pure (.int .i64),.pure (.int .i64)] [.ref (some t) cA 0 [],.v (.int .i64 a),.v (.int .i64 i)] X (placeR bs a i) := by
 have hf := hd.find a
 have hwle := hd.w.le
 refine xcOf (X := X48) rfl FN48 (by kernel_rfl) (by decide) (E48 X t a i ⟨d.val,h.el,d.T,mp_at.2 h.tk,fun v hv => ⟨fun e => (by cases e),fun _ => ?_⟩,fun hv => ⟨fun _ => ?_,fun e => by cases e⟩⟩)
 ·have hv : mfind (eqI a) d.T = some v := hv
  rw [hf] at hv
  cases hs : sizeAt bs a with
  | none => rw [hs] at hv; cases hv
  | some s =>
   rw [hs] at hv
   have hv : (s : Int) = v := Option.some.inj hv
   subst hv
   obtain ⟨p,rfl,hm,h1,h2,h3⟩ := sizeAt_bd hd.w hs
   have w1 : IntKind.wrap .i64 ((s : Int) - 1) = (s : Int) - 1 := wrap64 (by omega) (by omega)
   rw [w1]
   have e : placeR bs (p : Int) i = if i < 0 then (0,1) else if i ≥ (s : Int) - 1 then (0,1) else ((p : Int) + 1 + i,0) := by unfold placeR; rw [hs]
   refine ⟨fun q => ?_,fun q => ⟨fun q2 => ?_,fun q2 => ?_⟩⟩
   ·have e' : placeR bs (p : Int) i = (0,1) := by rw [e,if_pos (of_decide_eq_true q)]
    exact ⟨e'.symm,rfl⟩
   ·have e' : placeR bs (p : Int) i = (0,1) := by rw [e,if_neg (of_decide_eq_false q),if_pos (of_decide_eq_true q2)]
    exact ⟨e'.symm,rfl⟩
   ·have q := of_decide_eq_false q
    have q2 := of_decide_eq_false q2
    have e' : placeR bs (p : Int) i = ((p : Int) + 1 + i,0) := by rw [e,if_neg q,if_neg q2]
    rw [wrap64 (x := (p : Int) + 1) (by omega) (by omega),wrap64 (by omega) (by omega)]
    exact ⟨e'.symm,rfl⟩
 ·have hv : mfind (eqI a) d.T = none := hv
  rw [hf] at hv
  have hs : sizeAt bs a = none := by
   cases hs : sizeAt bs a with
   | none => rfl
   | some s => rw [hs] at hv; cases hv
  have e : placeR bs a i = (0,24) := by unfold placeR; rw [hs]
  exact ⟨e.symm,rfl⟩

def readR (W : List Int) (bs : List Bl) (a i : Int) : Int × Int := (W.getD (placeR bs a i).1.toNat 0,(placeR bs a i).2)

theorem c35 (h : Rep X t d) {bs : List Bl} (hd : DOK d bs) (a i : Int) : RC Tryd.prog 35 [.pure (.int .i64),.pure (.int .i64)] [.ref (some t) cA 0 [],.v (.int .i64 a),.v (.int .i64 i)] X (readR d.W bs a i) := by
 have hp : 0 ≤ (placeR bs a i).1 ∧ (placeR bs a i).1 < (d.W.length : Int) := by
  have h0 : 0 < d.W.length := by rw [hd.w.len]; omega
  rcases place_ok hd.w a i with (e | e) | ⟨p,s,j,rfl,rfl,hm,h1,e,h2,h3⟩
  ·rw [e]; simp only; omega
  ·rw [e]; simp only; omega
  ·rw [e]; simp only; omega
 refine xcOf (X := X35) rfl FN35 (by kernel_rfl) (by decide) (E35 X t a i ⟨_,c48 h hd a i,d.val,h.el,⟨d.hw,0,d.W.length,d.W.length⟩,rfl,hp.1,hp.2,_,?_,rfl,rfl⟩)
 rw [Nat.zero_add]
 exact at_arr_el h.w (by omega)

def writeW (W : List Int) (bs : List Bl) (a i v : Int) : List Int := if (placeR bs a i).2 = 0 then W.set (placeR bs a i).1.toNat v else W

theorem c31 (h : Rep X t d) {bs : List Bl} (hd : DOK d bs) (a i v : Int) : XC Tryd.prog 31 [.pure (.int .i64)] [.ref (some t) cA 0 [],.v (.int .i64 a),.v (.int .i64 i),.v (.int .i64 v)] X
  fun p X' => p = (placeR bs a i).2 ∧ ∃ d',Rep X' t d' ∧ Mv X (d.hs t) X' (d'.hs t) ∧ d' = { d with W := writeW d.W bs a i v } ∧ DOK d' bs := by
 refine xcOf (X := X31) rfl FN31 (by kernel_rfl) (by decide) (E31 X t a i v ⟨_,c48 h hd a i,fun e => ?_,fun e => ?_⟩)
 ·have e : (placeR bs a i).2 = 0 := by simpa using e
  rcases place_ok hd.w a i with (e1 | e1) | ⟨p,s,j,rfl,rfl,hm,h1,e1,h2,h3⟩
  ·rw [e1] at e; cases e
  ·rw [e1] at e; cases e
  have hp : (placeR bs (p : Int) (j : Int)).1 = ((p + 1 + j : Nat) : Int) := by rw [e1]
  rw [hp]
  refine ⟨d.val,h.el,⟨d.hw,0,d.W.length,d.W.length⟩,rfl,by omega,by show ((p + 1 + j : Nat) : Int) < ((d.W.length : Nat) : Int); omega,d.W.getD (p + 1 + j) 0,?_,fun X5 e5 => ?_⟩
  ·rw [Nat.zero_add,Int.toNat_natCast]; exact at_arr_el h.w (by omega)
  rw [Nat.zero_add,Int.toNat_natCast] at e5
  have e5 := e5.trans (at_arr_setEl h.w _ v)
  obtain ⟨h5,m5⟩ := h.setW (W' := d.W.set (p + 1 + j) v) (by simp)
  rw [← e5] at h5 m5
  have hW : writeW d.W bs (p : Int) (j : Int) v = d.W.set (p + 1 + j) v := by unfold writeW; rw [if_pos e,hp,Int.toNat_natCast]
  refine ⟨rfl,_,h5,m5,by rw [hW],⟨?_,hd.ix,hd.nd,hd.t,hd.n⟩⟩
  -- the words still tell of the blocks
  have hz := hd.w.sz
  refine ⟨by show (d.W.set (p + 1 + j) v).length = _; rw [List.length_set]; exact hd.w.len,by show (d.W.set (p + 1 + j) v).length ≤ _; rw [List.length_set]; exact hd.w.le,?_,hz,hd.w.ap,fun q s' u hq => ?_,fun q s' hq k h4 h5 => ?_⟩
  ·show (d.W.set (p + 1 + j) v)[0]? = _
   rw [List.getElem?_set_ne (by omega)]; exact hd.w.z
  ·show (d.W.set (p + 1 + j) v)[q]? = _
   rw [List.getElem?_set_ne]
   ·exact hd.w.h q s' u hq
   ·rintro rfl
    obtain ⟨pre,post,hbs,hpe⟩ := walk_split hm
    rw [hbs] at hq hz
    obtain ⟨z1,z2⟩ := sz2_app.1 hz
    obtain ⟨z2,z3⟩ := sz2_cons.1 z2
    rcases walk_three.1 hq with g | g | g
    ·have := walk_bd z1 g; omega
    ·have g1 := congrArg Prod.fst g
     simp only at g1
     omega
    ·have := walk_bd z3 g
     simp only at this; omega
  ·show (d.W.set (p + 1 + j) v)[k]? = _
   rw [List.getElem?_set_ne]
   ·exact hd.w.f q s' hq k h4 h5
   ·rintro rfl
    obtain ⟨pre,post,hbs,hpe⟩ := walk_split hm
    rw [hbs] at hq hz
    obtain ⟨z1,z2⟩ := sz2_app.1 hz
    obtain ⟨z2,z3⟩ := sz2_cons.1 z2
    rcases walk_three.1 hq with g | g | g
    ·have := walk_bd z1 g; omega
    ·cases g
    ·have := walk_bd z3 g
     simp only at this; omega
 ·have e : (placeR bs a i).2 ≠ 0 := by simpa using e
  have hW : writeW d.W bs a i v = d.W := by unfold writeW; rw [if_neg e]
  exact ⟨rfl,d,h,.refl _ _,by rw [hW],hd⟩

def sizeR (bs : List Bl) (a : Int) : Int × Bool :=
 match sizeAt bs a with
 | some s => ((s : Int) - 1,true)
 | none => (0,false)

theorem c41 (h : Rep X t d) {bs : List Bl} (hd : DOK d bs) : RC Tryd.prog 41 [.pure (.int .i64),.pure (.int .i64)] [.ref (some t) cA 0 []] X (((usedSum bs : Nat) : Int),(sumS bs : Int) - ((usedSum bs : Nat) : Int)) := by
 have := usedSum_le bs
 have := hd.w.le
 have hlen := hd.w.len
 refine xcOf (X := X41) rfl FN41 (by kernel_rfl) (by decide) (E41 X t ⟨_,h.el,_,h.el,_,h.el,?_,rfl⟩)
 have e1 : slN d.val.1 = d.W.length := rfl
 have e2 : d.val.2.2.2.2 = d.n := rfl
 rw [e1,e2,hd.n,wrap64 (x := ((d.W.length : Nat) : Int) - 1) (by omega) (by omega),wrap64 (by omega) (by omega),hlen]
 show (((usedSum bs : Nat) : Int),((1 + sumS bs : Nat) : Int) - 1 - ((usedSum bs : Nat) : Int)) = (((usedSum bs : Nat) : Int),(sumS bs : Int) - ((usedSum bs : Nat) : Int))
 congr 1; omega

def rawR (W : List Int) (i : Int) : Int × Bool := if i < 0 then (0,false) else if i ≥ (W.length : Int) then (0,false) else (W.getD i.toNat 0,true)

theorem c44 (h : Rep X t d) (i : Int) : RC Tryd.prog 44 [.pure (.int .i64),.pure .bool] [.ref (some t) cA 0 [],.v (.int .i64 i)] X (rawR d.W i) := by
 refine xcOf (X := X44) rfl FN44 (by kernel_rfl) (by decide) (E44 X t i ⟨fun e => ?_,fun e => ⟨d.val,h.el,fun e2 => ?_,fun e2 => ?_⟩⟩)
 ·have e' : rawR d.W i = (0,false) := by unfold rawR; rw [if_pos (of_decide_eq_true e)]
  exact ⟨e'.symm,rfl⟩
 ·have e2 : i ≥ (d.W.length : Int) := of_decide_eq_true e2
  have e' : rawR d.W i = (0,false) := by unfold rawR; rw [if_neg (of_decide_eq_false e),if_pos e2]
  exact ⟨e'.symm,rfl⟩
 ·have e := of_decide_eq_false e
  have e2 : ¬ i ≥ (d.W.length : Int) := of_decide_eq_false e2
  refine ⟨d.val,h.el,⟨d.hw,0,d.W.length,d.W.length⟩,rfl,by omega,by show i < ((d.W.length : Nat) : Int); omega,d.W.getD i.toNat 0,?_,?_,rfl⟩
  ·rw [Nat.zero_add]; exact at_arr_el h.w (by omega)
  ·have e' : rawR d.W i = (d.W.getD i.toNat 0,true) := by unfold rawR; rw [if_neg e,if_neg e2]
   exact e'.symm

theorem c38 (h : Rep X t d) {bs : List Bl} (hd : DOK d bs) (n : Int) (hn : -9223372036854775808 ≤ n ∧ n ≤ 9223372036854775807) : RC Tryd.prog 38 [.pure .bool] [.ref (some t) cA 0 [],.v (.int .i64 n)] X (bestR d.L n).2 :=
 xcOf (X := X38) rfl FN38 (by kernel_rfl) (by decide) (E38 X t n ⟨_,c50 h hd.ix.lok n hn,rfl,rfl⟩)

theorem fits_iff {bs : List Bl} (hd : DOK d bs) (n : Int) : (bestR d.L n).2 = true ↔ 1 ≤ n ∧ n ≤ 1048576 ∧ ∃ p s : Nat,(p,s,false) ∈ walk 1 bs ∧ n + 1 ≤ (s : Int) := by
 by_cases h1 : 1 ≤ n ∧ n ≤ 1048576
 ·obtain ⟨m,rfl⟩ : ∃ m : Nat,n = m := ⟨n.toNat,by omega⟩
  rcases best_split hd.w.sz (bestR_spec hd.ix (n := m) (by omega) (by omega)) with ⟨pre,s,post,hb,hr⟩ | ⟨hr,hno⟩
  ·rw [hr]
   refine ⟨fun _ => ⟨h1.1,h1.2,1 + sumS pre,s,?_,?_⟩,fun _ => rfl⟩
   ·rw [hb.e]; exact walk_three.2 (.inr (.inl rfl))
   ·have := hb.le; omega
  ·rw [hr]
   refine ⟨fun e => (by cases e),?_⟩
   rintro ⟨_,_,p,s,hm,hs⟩
   exact absurd (by omega) (hno p s hm)
 ·have : bestR d.L n = ((0,0),false) := by
   unfold bestR
   by_cases h2 : n < 1
   ·rw [if_pos h2]
   ·rw [if_neg h2,if_pos (by omega)]
  rw [this]
  refine ⟨fun e => (by cases e),?_⟩
  rintro ⟨a,b,_⟩
  exact absurd ⟨a,b⟩ h1

end Go.Proofs.YtdcljlafookliaaDoor.AB

namespace Go.Proofs.YtdcljlafookliaaDoor.AB
open Go

def newW (n : Nat) : List Int := over ((List.replicate n (0:Int)).set 1 (2 * ((n - 1 : Nat) : Int))) 2 (List.replicate (n - 2) poisonW)

theorem newW_len {n : Nat} (h : 2 ≤ n) : (newW n).length = n := by
 unfold newW
 rw [over_length (by simp; omega)]; simp

theorem newW_get {n : Nat} (h : 2 ≤ n) (i : Nat) : (newW n)[i]? = if i = 1 then some (2 * ((n - 1 : Nat) : Int)) else if i = 0 then some 0 else if i < n then some poisonW else none := by
 unfold newW
 rw [over_get (by simp; omega),List.getElem?_set]
 simp only [List.length_replicate]
 by_cases e1 : i = 1
 ·subst e1
  rw [if_neg (by omega),if_pos rfl,if_pos (by omega),if_pos rfl]
 ·rw [if_neg e1]
  by_cases e0 : i = 0
  ·subst e0
   rw [if_neg (by omega),if_neg (by omega),if_pos rfl,List.getElem?_replicate,if_pos (by omega)]
  ·rw [if_neg e0]
   by_cases e2 : i < n
   ·rw [if_pos (by omega),if_pos e2,List.getElem?_replicate,if_pos (by omega)]
   ·rw [if_neg (by omega),if_neg e2,if_neg (fun q => e1 q.symm),List.getElem?_eq_none (by simp; omega)]

theorem newW_ok {n : Nat} (h : 16 ≤ n) (h2 : n ≤ 1048576) : WOK (newW n) [(n - 1,false)] := by
 have hg := newW_get (n := n) (by omega)
 have hm : ∀ p s u,(p,s,u) ∈ walk 1 [(n - 1,false)] → p = 1 ∧ s = n - 1 ∧ u = false := by
  intro p s u hm
  simp only [walk,List.mem_singleton] at hm
  cases hm; exact ⟨rfl,rfl,rfl⟩
 refine ⟨by rw [newW_len (by omega)]; simp [sumS]; omega,by rw [newW_len (by omega)]; exact h2,?_,fun b hb => ?_,trivial,fun p s u hq => ?_,fun p s hq i h3 h4 => ?_⟩
 ·rw [hg,if_neg (by omega),if_pos rfl]
 ·simp only [List.mem_singleton] at hb
  subst hb
  show 2 ≤ n - 1
  omega
 ·obtain ⟨rfl,rfl,rfl⟩ := hm p s u hq
  rw [hg,if_pos rfl]; simp [hd]
 ·obtain ⟨rfl,rfl,_⟩ := hm p s false hq
  rw [hg,if_neg (by omega),if_neg (by omega),if_pos (by omega)]

theorem FF_new {n : Nat} (b : BK) : FF [(n - 1,false)] b ↔ b = (((1:Nat) : Int),((n - 1 : Nat) : Int)) := by
 constructor
 ·rintro ⟨p,s,rfl,hm⟩
  simp only [walk,List.mem_singleton] at hm
  cases hm; rfl
 ·rintro rfl
  exact ⟨1,n - 1,rfl,by simp [walk]⟩

variable {X : XH}

theorem c27 (n : Int) (hn : -9223372036854775808 ≤ n ∧ n ≤ 9223372036854775807) : XC Tryd.prog 27 [.ref cA,.pure (.int .i64)] [.v (.int .i64 n)] X
  fun p X' => (¬ (16 ≤ n ∧ n ≤ 1048576) ∧ p = ((none,(1:Int)) : Option Nat × Int) ∧ X' = X) ∨ ∃ (m t : Nat) (d : AD),n = m ∧ 16 ≤ m ∧ m ≤ 1048576 ∧ p = ((some t,(0:Int)) : Option Nat × Int) ∧ Rep X' t d ∧ Mv X [] X' (d.hs t) ∧ DOK d [(m - 1,false)] ∧ d.W = newW m := by
 refine xcOf (X := X27) rfl FN27 (by kernel_rfl) (by decide) (E27 X n ⟨fun e => ?_,fun e => ⟨fun e2 => ?_,fun e2 => ?_⟩⟩)
 ·have e := of_decide_eq_true e
  exact .inl ⟨by omega,rfl,rfl⟩
 ·have e2 := of_decide_eq_true e2
  exact .inl ⟨by omega,rfl,rfl⟩
 have e := of_decide_eq_false e
 have e2 := of_decide_eq_false e2
 obtain ⟨m,rfl⟩ : ∃ m : Nat,n = m := ⟨n.toNat,by omega⟩
 rw [Int.toNat_natCast]
 refine ⟨by omega,Int.le_refl _,by show (m : Int) * 8 ≤ ((140737488355328:Nat) : Int); omega,by omega,?_⟩
 intro X1 e1 X2 e22 X3 e3 X4 e4
 obtain ⟨ls,hls⟩ : ∃ ls : Nat → Option SlH,ls = fun i => ([none,none,none,none,none,none,none,none,none,none,none,none,none,none,none,none,none,none,none,none,none,none] : List (Option SlH)).getD i none := ⟨_,rfl⟩
 rw [← hls] at e4
 have hls0 : ∀ k,ls k = none := by
  intro k
  rw [hls]
  show (List.replicate 22 (none : Option SlH)).getD k none = none
  rw [List.getD,List.getElem?_replicate]
  split <;> rfl
 obtain ⟨d,hd⟩ : ∃ d : AD,d = ⟨X.n,X1.n,X2.n,ls,List.replicate m 0,fun _ => [],[],[],0⟩ := ⟨_,rfl⟩
 have n1 : X1.n = X.n + 1 := by rw [e1]; rfl
 have n2 : X2.n = X.n + 2 := by rw [e22]; show X1.n + 1 = _; omega
 have n3 : X3.n = X.n + 3 := by rw [e3]; show X2.n + 1 = _; omega
 have hv : d.val = (some ⟨X.n,0,m,m⟩,ls,some X1.n,some X2.n,0) := by rw [hd]; simp [AD.val]
 have r4 : Rep X4 X3.n d := by
  refine ⟨?_,?_,?_,?_,fun k hk => ?_,?_,fun k hk q hq => ?_,fun k k' hk hk' hne q hq => ?_⟩
  ·show X4.at X3.n = _
   rw [e4,at_add_new,hv]
  ·rw [hd]
   show X4.at X.n = some (.arr cI (List.replicate m 0))
   rw [e4,at_add_old (by omega),e3,at_add_old (by omega),e22,at_add_old (by omega),e1,at_add_new]
  ·rw [hd]
   show X4.at X1.n = _
   rw [e4,at_add_old (by omega),e3,at_add_old (by omega),e22,at_add_new]
  ·rw [hd]
   show X4.at X2.n = _
   rw [e4,at_add_old (by omega),e3,at_add_new]
  ·rw [hd]
   show SlAt X4 cB (ls k) []
   rw [hls0]; rfl
  ·rw [hd]
   show X3.n ≠ X.n ∧ X3.n ≠ X1.n ∧ X3.n ≠ X2.n ∧ X.n ≠ X1.n ∧ X.n ≠ X2.n ∧ X1.n ≠ X2.n
   omega
  ·rw [hd] at hq
   have hq : q ∈ hl (ls k) := hq
   rw [hls0] at hq; cases hq
  ·rw [hd] at hq
   have hq : q ∈ hl (ls k) := hq
   rw [hls0] at hq; cases hq
 have m4 : Mv X [] X4 (d.hs X3.n) := by
  refine ⟨?_,fun k hk _ => ?_,fun k hk => .inr ?_⟩
  ·rw [e4]; show X.n ≤ X3.n + 1; omega
  ·rw [e4,at_add_old (by omega),e3,at_add_old (by omega),e22,at_add_old (by omega),e1,at_add_old hk]
  ·rcases mem_hs.1 hk with h | h | h | h | ⟨j,hj,h⟩
   ·omega
   ·rw [hd] at h; simp only at h; omega
   ·rw [hd] at h; simp only at h; omega
   ·rw [hd] at h; simp only at h; omega
   ·rw [hd] at h
    have h : k ∈ hl (ls j) := h
    rw [hls0] at h; cases h
 have ix0 : IX d.L d.E (fun _ => False) := by
  rw [hd]
  exact ⟨fun b h => h.elim,fun b b' h => h.elim,fun b b' h => h.elim,fun k hk => List.Pairwise.nil,fun k hk b => ⟨fun h => (by cases h),fun h => h.1.elim⟩,by simp,fun a p => ⟨fun h => (by cases h),fun ⟨b,h,_⟩ => h.elim⟩⟩
 have hw1 : IntKind.wrap .i64 ((m : Int) - 1) = ((m - 1 : Nat) : Int) := by rw [wrap64 (by omega) (by omega)]; omega
 have hWl : d.W.length = m := by rw [hd]; simp
 rw [hw1]
 refine (c45 r4 ix0.lok (a := 1) (s := m - 1) (by omega) (by omega) (by omega) (by unfold bok; simp only; omega)).mono ?_
 rintro _ X6 ⟨d6,r6,m6,w6,l6,ee6,t6,nn6⟩
 have hW6 : d6.W.length = m := by rw [w6]; simp [hWl]
 refine (c46 r6 (a := 2) (b := m) (by omega) (by omega) (by omega)).mono ?_
 rintro _ X8 ⟨d8,r8,m8,e8⟩
 refine .inr ⟨m,X3.n,d8,rfl,by omega,by omega,rfl,r8,(m4.trans m6).trans m8,?_,?_⟩
 ·have hW8 : d8.W = newW m := by
   rw [e8]
   show over d6.W 2 _ = _
   rw [w6,hd]; rfl
  refine ⟨by rw [hW8]; exact newW_ok (by omega) (by omega),?_,?_,fun a v => ?_,?_⟩
  ·rw [e8]
   show IX d6.L d6.E _
   rw [l6,ee6]
   refine (ix0.lay (p := 1) (s := m - 1) (by omega) (by omega) (by omega) (fun _ h => h.elim)).congr fun b => ?_
   rw [FF_new]
   constructor
   ·exact fun h => .inr h
   ·rintro (h | h)
    ·exact h.elim
    ·exact h
  ·rw [e8]; show (d6.T.map (·.1)).Nodup
   rw [t6,hd]; simp
  ·rw [e8]; show (a,v) ∈ d6.T ↔ _
   rw [t6,hd]
   refine ⟨fun h => (by cases h),?_⟩
   rintro ⟨p,s,_,_,hm⟩
   simp [walk] at hm
  ·rw [e8]; show d6.n = _
   rw [nn6,hd]; rfl
 ·rw [e8]
  show over d6.W 2 _ = _
  rw [w6,hd]; rfl

end Go.Proofs.YtdcljlafookliaaDoor.AB

namespace Go.Proofs.YtdcljlafookliaaDoor.AB
open Go

variable {X X' : XH} {t : Nat} {d : AD}

def leN : Int → Int → Bool := fun x y => decide (x ≤ y)

def noR : Value → Option (DataW Unit × List MemPlace) := fun _ => some (.nil,[])

theorem rg_int {a : Int} {x : MapEntry} (hx : x.key = .int .i64 a) (h1 : -9223372036854775808 ≤ a) (h2 : a ≤ 9223372036854775807) : WideElems.rd Tryd.prog 3 noR x = some (.int .i64 a,.nil) := by
 unfold WideElems.rd
 rw [hx,Go.Maps.keyOf_int_mk Tryd.underlying3 (by
  simp [Lit.wf,IntKind.min,IntKind.max,IntKind.bits,IntKind.signed]
  omega)]
 rfl

theorem c43a (h : Rep X t d) (hk : ∀ e ∈ d.T,-9223372036854775808 ≤ e.1 ∧ e.1 ≤ 9223372036854775807) (hsz : d.T.length < 2000000) :
  RC Tryd.prog 43 [.pure (.slice (.int .i64))] [.ref (some t) cA 0 []] X ((d.T.map (·.1)).mergeSort leN) := by
 intro Mine G w vs hi hl hr
 obtain ⟨u,rfl⟩ : ∃ u,vs = #[u] := by
  have : vs.size = 1 := hl.symm
  exact ⟨vs[0],by
   apply Array.ext
   ·simpa using this
   ·intro i h1 h2
    have : i = 0 := by simp at h2; omega
    subst this; rfl⟩
 have hu := hr 0 (.ref (some t) cA 0 []) u rfl rfl
 refine .inl ⟨⟨Tryd.f43,by kernel_rfl,by decide,rfl⟩,?_⟩
 cases hu with
 | ref _ _ _ _ b ct hl0 hp =>
 -- the arena
 obtain ⟨b',h1,h2,h3,cur,el,h4,h5,h6⟩ := hi.xarr rfl h.box.arr
 rw [hl0] at h1; cases h1
 obtain ⟨u0,q1,q2,q3⟩ := h6 0 _ rfl 24 (.mp (.int .i64) cI (some d.ht)) (by
  simp only [AD.val,cA,Xd.cells,List.range,List.range.loop,List.flatMap_cons,List.flatMap_nil,List.cons_append,List.nil_append,List.getElem?_cons_succ,List.getElem?_cons_zero])
 cases q2 with
 | mp _ _ _ r sz ct' hlm =>
 obtain ⟨r',sz',ct'',g1,g2,g3,ents',ck,g4,g5,g6,g7⟩ := hi.xmp rfl (mp_at.2 h.tk)
 rw [hlm] at g1; cases g1
 have hlen : ents'.size = d.T.length := g5.symm
 have hkey : ∀ (i : Nat) x,ents'[i]? = some x → ∃ e,d.T[i]? = some e ∧ x.key = .int .i64 e.1 := by
  intro i x hx
  have hlt := (Array.getElem?_eq_some_iff.1 hx).1
  have hi3 : i < d.T.length := by rw [← hlen]; exact hlt
  have he : d.T[i]? = some d.T[i] := List.getElem?_eq_getElem hi3
  have := (g6 i _ x he hx).1
  refine ⟨_,he,?_⟩
  have hk : VR G (.int .i64 d.T[i].1) x.key := this
  generalize x.key = y at hk
  cases hk; rfl
 have hrd : ∀ (i : Nat) x,ents'[i]? = some x → ∃ e,d.T[i]? = some e ∧ WideElems.rd Tryd.prog 3 noR x = some (.int .i64 e.1,.nil) := by
  intro i x hx
  obtain ⟨e,he,hk'⟩ := hkey i x hx
  have := hk e (List.mem_of_getElem? he)
  exact ⟨e,he,rg_int hk' this.1 this.2⟩
 have fit : WideElems.Fit Tryd.prog 3 noR ents' ck := by
  refine ⟨?_,g7,fun x hx => ?_⟩
  ·rw [hlen]; unfold maxLen; omega
  ·obtain ⟨i,hi'⟩ := List.getElem?_of_mem hx
   obtain ⟨e,_,ha⟩ := hrd i x (by simpa using hi')
   exact ⟨_,ha⟩
 have hown := World.ownsMap_of_fit (w := w) (R := noR) g4 fit (fun _ _ _ e => e)
 have hpm := WideShapes.sorted_perm (ents'.toList.map (WideElems.rg Tryd.prog 3 noR))
 have hkeys : intKeys (.map (ents'.toList.map (WideElems.rg Tryd.prog 3 noR))) = d.T.map (·.1) := by
  show (ents'.toList.map (WideElems.rg Tryd.prog 3 noR)).map (fun p => Go.intOf p.1) = _
  refine List.ext_getElem? fun i => ?_
  rw [List.map_map,List.getElem?_map,List.getElem?_map]
  cases hx : ents'.toList[i]? with
  | none =>
   have : d.T[i]? = none := by
    rw [List.getElem?_eq_none_iff] at hx ⊢
    rw [← hlen]; simpa using hx
   rw [this]; rfl
  | some x =>
   obtain ⟨e,he,hk'⟩ := hrd i x (by simpa using hx)
   rw [he]
   simp only [Option.map_some,Function.comp,WideElems.rg,hk',Option.getD_some]
   rfl
 have hsize : Go.Maps.size (DataW.map ((ents'.toList.map (WideElems.rg Tryd.prog 3 noR)).foldr DataW.insert [])) = d.T.length := by
  show ((ents'.toList.map (WideElems.rg Tryd.prog 3 noR)).foldr DataW.insert []).length = _
  rw [hpm.length_eq]; simp [hlen]
 have hcell : w.cell? ⟨b,24,none⟩ = some (.map (some r)) := by
  unfold World.cell?
  simp only [h4]
  simpa using q1
 have hcall := used_calls b r ents'.size _ noR w hcell hown (by rw [hsize]; unfold maxLen; omega) (by rw [hsize]; omega)
 refine hcall.mono ?_
 rintro e w' ⟨v,ss,rfl,hs,hrow,hbel⟩
 have hssp : ss.Perm (d.T.map (·.1)) := by
  refine hs.trans ?_
  rw [← hkeys]
  unfold intKeys
  exact hpm.map _
 have hms : ss.mergeSort (fun x y => decide (x ≤ y)) = (d.T.map (·.1)).mergeSort leN := mergeSort_of_perm_i hssp
 have hlen2 : ss.length = ((d.T.map (·.1)).mergeSort leN).length := by
  rw [← hms]; simp
 rw [hms,hlen2] at hrow
 obtain ⟨G',k1,k2,k3,k4,k5⟩ := hi.rowInt hbel hrow
 exact ⟨v,_,X,G',rfl,⟨rfl,rfl⟩,k1,k2,k3,k4,k5⟩

def usedAt (bs : List Bl) : List Int := ((walk 1 bs).filter fun x => x.2.2).map fun x => (x.1 : Int)

theorem usedAt_mem {bs : List Bl} {a : Int} : a ∈ usedAt bs ↔ ∃ p s : Nat,a = (p : Int) ∧ (p,s,true) ∈ walk 1 bs := by
 unfold usedAt
 rw [List.mem_map]
 constructor
 ·rintro ⟨⟨p,s,u⟩,hx,rfl⟩
  rw [List.mem_filter] at hx
  obtain ⟨h1,h2⟩ := hx
  simp only at h2
  subst h2
  exact ⟨p,s,rfl,h1⟩
 ·rintro ⟨p,s,rfl,hm⟩
  exact ⟨(p,s,true),List.mem_filter.2 ⟨hm,rfl⟩,rfl⟩

theorem walk_sorted {bs : List Bl} (hz : sz2 bs) : ∀ p,(walk p bs).Pairwise fun x y => x.1 < y.1 := by
 induction bs with
 | nil => exact fun _ => List.Pairwise.nil
 | cons b r ih =>
  intro p
  obtain ⟨z1,z2⟩ := sz2_cons.1 hz
  refine List.pairwise_cons.2 ⟨fun x hx => ?_,ih z2 _⟩
  obtain ⟨q,s,u⟩ := x
  have := walk_bd z2 hx
  simp only
  omega

theorem usedAt_sorted {bs : List Bl} (hz : sz2 bs) : (usedAt bs).Pairwise (· < ·) := by
 unfold usedAt
 rw [List.pairwise_map]
 refine List.Pairwise.imp (fun h => ?_) ((walk_sorted hz 1).filter _)
 exact Int.ofNat_lt.2 h

theorem sorted_ext : ∀ {l m : List Int},l.Pairwise (· < ·) → m.Pairwise (· < ·) → (∀ a,a ∈ l ↔ a ∈ m) → l = m
 | [],[],_,_,_ => rfl
 | [],b :: m,_,_,h => absurd ((h b).2 (List.mem_cons_self ..)) (by simp)
 | a :: l,[],_,_,h => absurd ((h a).1 (List.mem_cons_self ..)) (by simp)
 | a :: l,b :: m,h1,h2,h => by
  rw [List.pairwise_cons] at h1 h2
  have hab : a = b := by
   rcases List.mem_cons.1 ((h a).1 (List.mem_cons_self ..)) with e | e
   ·exact e
   ·rcases List.mem_cons.1 ((h b).2 (List.mem_cons_self ..)) with e' | e'
    ·exact e'.symm
    ·have := h2.1 a e
     have := h1.1 b e'
     omega
  subst hab
  rw [sorted_ext h1.2 h2.2 (fun c => ?_)]
  constructor
  ·intro hc
   rcases List.mem_cons.1 ((h c).1 (List.mem_cons_of_mem _ hc)) with e | e
   ·subst e; have := h1.1 c hc; omega
   ·exact e
  ·intro hc
   rcases List.mem_cons.1 ((h c).2 (List.mem_cons_of_mem _ hc)) with e | e
   ·subst e; have := h2.1 c hc; omega
   ·exact e

theorem DOK.keys {bs : List Bl} (hd : DOK d bs) : (d.T.map (·.1)).mergeSort leN = usedAt bs := by
 refine sorted_ext ?_ (usedAt_sorted hd.w.sz) (fun a => ?_)
 ·have hp : ((d.T.map (·.1)).mergeSort leN).Perm (d.T.map (·.1)) := List.mergeSort_perm _ _
  have hs : ((d.T.map (·.1)).mergeSort leN).Pairwise (fun a b => leN a b = true) := List.pairwise_mergeSort (fun a b c => by unfold leN; simp; omega) (fun a b => by unfold leN; simp; omega) _
  have hn : ((d.T.map (·.1)).mergeSort leN).Nodup := hp.nodup_iff.2 hd.nd
  refine List.Pairwise.imp₂ (fun a b h1 h2 => ?_) hs hn
  have h1 : a ≤ b := of_decide_eq_true h1
  have h2 : a ≠ b := h2
  omega
 ·have hp : ((d.T.map (·.1)).mergeSort leN).Perm (d.T.map (·.1)) := List.mergeSort_perm _ _
  rw [hp.mem_iff,List.mem_map,usedAt_mem]
  constructor
  ·rintro ⟨⟨x,v⟩,hx,rfl⟩
   obtain ⟨p,s,h1,h2,h3⟩ := (hd.t _ _).1 hx
   exact ⟨p,s,h1,h3⟩
  ·rintro ⟨p,s,rfl,hm⟩
   exact ⟨((p : Int),(s : Int)),(hd.t _ _).2 ⟨p,s,rfl,rfl,hm⟩,rfl⟩

theorem c43 (h : Rep X t d) {bs : List Bl} (hd : DOK d bs) : RC Tryd.prog 43 [.pure (.slice (.int .i64))] [.ref (some t) cA 0 []] X (usedAt bs) := by
 have hwle := hd.w.le
 have key : ∀ e ∈ d.T,1 ≤ e.1 ∧ e.1 ≤ 1048576 := by
  rintro ⟨a,v⟩ he
  obtain ⟨p,s,rfl,rfl,hm⟩ := (hd.t _ _).1 he
  have := hd.w.bd hm
  simp only
  omega
 have hn : d.T.length ≤ 1048577 := by
  have h1 : (d.T.map fun e => e.1.toNat).Nodup := by
   rw [List.Nodup,List.pairwise_map]
   have h0 := hd.nd
   rw [List.Nodup,List.pairwise_map] at h0
   refine List.Pairwise.imp_of_mem (fun {a b} ha hb hab e => hab ?_) h0
   have := key a ha
   have := key b hb
   omega
  have := nodup_lt 1048577 _ h1 (fun x hx => by
   obtain ⟨e,he,rfl⟩ := List.mem_map.1 hx
   have := key e he
   omega)
  rwa [List.length_map] at this
 have := c43a h (fun e he => by have := key e he; omega) (by omega)
 rw [hd.keys] at this
 exact this

end Go.Proofs.YtdcljlafookliaaDoor.AB

set_option maxRecDepth 100000
set_option maxHeartbeats 2000000
namespace Go.Proofs.YtdcljlafookliaaDoor.AB
open Go
noncomputable def X9 : Cx := ⟨tt,[],[],[],[],[]⟩
theorem FN9 : fnsB Tryd.prog X9.fns := (show True from trivial)
theorem E9 (c0 : Int) (n1 : Int) {R : V → Prop} (h : (((decide (c0 < (0:Int))) = true → (n1 ≠ 0 ∧ R (.int .i64 ((Int.tmod (IntKind.wrap .i64 (0 - (IntKind.wrap .i64 (c0 + (1:Int))))) n1))))) ∧
 ((decide (c0 < (0:Int))) = false → (n1 ≠ 0 ∧ R (.int .i64 (Int.tmod c0 n1)))))) :
  fnK X9.tt (callN Tryd.prog X9 0) (X9.md 9) (X9.mk1 9) Tryd.f9 [(.v (.int .i64 c0)),(.v (.int .i64 n1))] ⟨[],[],⟨0,[]⟩⟩ (topK R) := Eq.mp (by kernel_rfl) h
end Go.Proofs.YtdcljlafookliaaDoor.AB

set_option maxRecDepth 100000
set_option maxHeartbeats 2000000
namespace Go.Proofs.YtdcljlafookliaaDoor.AB
open Go
noncomputable def X26 : Cx := ⟨tt,[],[],[],[(26,[(0,mkM 26 0 [0,1,5],0)])],[]⟩
theorem FN26 : fnsB Tryd.prog X26.fns := (show True from trivial)
def M26_0 : List Bool × Nat := (mkM 26 0 [0,1,5],0)
def S26_0 (a0 : List Int) (b1 : List Int) (i5 : Int) (T : Toks) : St :=
  mkS 26 [(0,(.v (.list (.int .i64) a0 .no))),(1,(.v (.list (.int .i64) b1 .no))),(5,(.v (.int .i64 i5)))] [] T
noncomputable def B26_0 : (Exit → St → Prop) → St → Prop := (awp X26.tt (callN Tryd.prog X26 0) (X26.md 26) 0 (X26.mk1 26) 0 (codeAt [1,1,0,1,0,0] (bd Tryd.f26)))
noncomputable def K26_0 (R : V → Prop) : Exit → St → Prop := seqK ((awp X26.tt (callN Tryd.prog X26 0) (X26.md 26) 0 (X26.mk1 26) 0 (codeAt [1,1,1] (bd Tryd.f26))) (retK tt Tryd.f26.results.toList fun x s' => topK R x ⟨[],s'.hp,s'.T⟩)) (retK tt Tryd.f26.results.toList fun x s' => topK R x ⟨[],s'.hp,s'.T⟩)
noncomputable def Q26_0 (R : V → Prop) : Exit → St → Prop := (blockK 0 (K26_0 R))
theorem E26 (a0 : (List Int)) (b1 : (List Int)) {R : V → Prop} (h : (((((a0).length : Int) != ((b1).length : Int)) = true → R (.bool false)) ∧
 ((((a0).length : Int) != ((b1).length : Int)) = false → (Loops B26_0 M26_0 (Q26_0 R)
  (S26_0 a0 b1 (0:Int) ⟨0,[]⟩))))) :
  fnK X26.tt (callN Tryd.prog X26 0) (X26.md 26) (X26.mk1 26) Tryd.f26 [(.v (.list (.int .i64) a0 .no)),(.v (.list (.int .i64) b1 .no))] ⟨[],[],⟨0,[]⟩⟩ (topK R) := Eq.mp (by kernel_rfl) h
theorem L26_0 (a0 : List Int) (b1 : List Int) (i5 : Int) (T : Toks) {R : V → Prop} {k0 : St → Prop}
 (h : (((decide (i5 < ((a0).length : Int))) = true → (0 ≤ i5 ∧ i5 < ((a0).length : Int) ∧ (0 ≤ i5 ∧ i5 < ((b1).length : Int) ∧ ((((a0.getD (i5).toNat 0) != (b1.getD (i5).toNat 0)) = true → R (.bool false)) ∧
 (((a0.getD (i5).toNat 0) != (b1.getD (i5).toNat 0)) = false → k0 (S26_0 a0 b1 ((IntKind.wrap .i64 (i5 + (1:Int)))) T)))))) ∧
 ((decide (i5 < ((a0).length : Int))) = false → R (.bool true)))) :
  B26_0 (loopQ M26_0 k0 (Q26_0 R)) (S26_0 a0 b1 i5 T) := Eq.mp (by kernel_rfl) h
end Go.Proofs.YtdcljlafookliaaDoor.AB

namespace Go.Proofs.YtdcljlafookliaaDoor.AB
open Go

theorem p9 (c n : Int) (hc : -9223372036854775808 ≤ c ∧ c ≤ 9223372036854775807) (hn : n ≠ 0) :
  PC Tryd.prog 9 [.int .i64 c,.int .i64 n] (.int .i64 (Int.tmod (if c < 0 then -(c + 1) else c) n)) := by
 refine pcOf (X := X9) (d := 0) rfl FN9 (by kernel_rfl) (by decide) (E9 c n ⟨fun h => ⟨hn,?_⟩,fun h => ⟨hn,?_⟩⟩)
 ·have h := of_decide_eq_true h
  rw [wrap64 (x := c + 1) (by omega) (by omega),wrap64 (by omega) (by omega),if_pos h,show (0:Int) - (c + 1) = -(c + 1) by omega]
  exact ⟨rfl,rfl⟩
 ·have h := of_decide_eq_false h
  rw [if_neg (by omega)]
  exact ⟨rfl,rfl⟩

def pickR (c : Int) (n : Nat) : Nat := (Int.tmod (if c < 0 then -(c + 1) else c) n).toNat

theorem pickR_lt (c : Int) {n : Nat} (hn : 0 < n) : pickR c n < n ∧ Int.tmod (if c < 0 then -(c + 1) else c) n = (pickR c n : Nat) := by
 unfold pickR
 have hx : 0 ≤ (if c < 0 then -(c + 1) else c) := by split <;> omega
 rw [Int.tmod_eq_emod_of_nonneg hx]
 have h1 := Int.emod_nonneg (if c < 0 then -(c + 1) else c) (show (n : Int) ≠ 0 by omega)
 have h2 := Int.emod_lt_of_pos (if c < 0 then -(c + 1) else c) (show (0:Int) < n by omega)
 omega

theorem pick_ok (c : Int) {n : Nat} (hc : -9223372036854775808 ≤ c ∧ c ≤ 9223372036854775807) (hn : 0 < n) : PC Tryd.prog 9 [.int .i64 c,.int .i64 (n : Int)] (.int .i64 (pickR c n : Nat)) := by
 have := p9 c n hc (by omega)
 rwa [(pickR_lt c hn).2] at this

theorem retB {a b : Bool} (h : a = b) : V.norm (.bool a) = .bool b ∧ (V.bool b).nt = true := by subst h; exact ⟨rfl,rfl⟩

theorem beq_take_succ {α : Type} [BEq α] [LawfulBEq α] {a b : List α} {n : Nat} {d : α} (h : a.take n = b.take n) (hn : n < a.length) (hm : n < b.length) (he : (a.getD n d == b.getD n d) = true) : a.take (n + 1) = b.take (n + 1) := by
 have he := eq_of_beq he
 rw [List.take_succ_eq_append_getElem hn,List.take_succ_eq_append_getElem hm,h]
 simp only [List.getD,List.getElem?_eq_getElem hn,List.getElem?_eq_getElem hm,Option.getD_some] at he
 rw [he]

theorem p26 (a b : List Int) (ha : a.length ≤ 9223372036854775807) : PC Tryd.prog 26 [.list (.int .i64) a .no,.list (.int .i64) b .no] (.bool (a == b)) := by
 refine pcOf (X := X26) (d := 0) rfl FN26 (by kernel_rfl) (by decide) (E26 a b ⟨fun h => ?_,fun h => ?_⟩)
 ·have hne : a ≠ b := by rintro rfl; simp at h
  exact retB (by simpa using hne)
 ·have hl : a.length = b.length := by
   have : (a.length : Int) = b.length := by simpa using h
   omega
  refine Loops.intro (fun n : Nat => S26_0 a b n ⟨0,[]⟩) (fun n => n ≤ a.length ∧ a.take n = b.take n) (fun n => a.length - n) 0 rfl ⟨Nat.zero_le _,rfl⟩ ?_
  rintro n ⟨hn,ht⟩
  refine L26_0 a b n ⟨0,[]⟩ ⟨fun h => ?_,fun h => ?_⟩
  ·have hlt : n < a.length := by simpa using h
   refine ⟨by omega,by omega,by omega,by omega,fun h => ?_,fun h => ?_⟩
   ·have hne : a ≠ b := by rintro rfl; simp at h
    exact retB (by simpa using hne)
   ·rw [wrap64 (by omega) (by omega)]
    refine Again.mk (n + 1) rfl ⟨by omega,beq_take_succ (d := 0) ht hlt (by omega) ?_⟩ (by omega)
    rw [Int.toNat_natCast] at h
    have : a.getD n 0 = b.getD n 0 := by simpa using h
    rw [this]; exact beq_self_eq_true _
  ·have hge : n = a.length := by
    have : ¬ ((n : Int) < a.length) := by simpa using h
    omega
   have : a = b := by
    rw [hge,List.take_length] at ht
    rw [hl,List.take_length] at ht
    exact ht
   subst this
   exact retB (by simp)


theorem split_uniq : ∀ {pre pre' : List Bl} {x x' : Bl} {post post' : List Bl},sz2 (pre ++ x :: post) → pre ++ x :: post = pre' ++ x' :: post' → sumS pre = sumS pre' → pre = pre' ∧ x = x' ∧ post = post'
 | [],[],x,x',post,post',_,h,_ => by cases h; exact ⟨rfl,rfl,rfl⟩
 | [],b :: pre',x,x',post,post',hz,h,hs => by
  simp only [List.nil_append,List.cons_append,List.cons.injEq] at h
  have := hz x (by simp)
  simp only [sumS] at hs
  rw [h.1] at this
  omega
 | a :: pre,[],x,x',post,post',hz,h,hs => by
  have := hz a (by simp)
  simp only [sumS] at hs
  omega
 | a :: pre,b :: pre',x,x',post,post',hz,h,hs => by
  simp only [List.cons_append,List.cons.injEq] at h
  obtain ⟨rfl,h⟩ := h
  simp only [sumS] at hs
  obtain ⟨e1,e2,e3⟩ := split_uniq (sz2_cons.1 hz).2 h (by omega)
  rw [e1]; exact ⟨rfl,e2,e3⟩

theorem BestAt.uniq {bs pre pre' post post' : List Bl} {n s s' : Nat} (hz : sz2 bs) (h : BestAt bs n pre s post) (h' : BestAt bs n pre' s' post') : pre = pre' ∧ s = s' ∧ post = post' := by
 have m1 : (1 + sumS pre,s,false) ∈ walk 1 bs := by rw [h.e]; exact walk_three.2 (.inr (.inl rfl))
 have m2 : (1 + sumS pre',s',false) ∈ walk 1 bs := by rw [h'.e]; exact walk_three.2 (.inr (.inl rfl))
 have a := h.min _ _ m2 h'.le
 have b := h'.min _ _ m1 h.le
 have hs : sumS pre = sumS pre' := by omega
 rw [h.e] at hz
 obtain ⟨e1,e2,e3⟩ := split_uniq hz (h.e.symm.trans h'.e) hs
 cases e2
 exact ⟨e1,rfl,e3⟩

variable {X X' : XH} {t : Nat} {d : AD}

theorem AllocQ.ok {bs pre post : List Bl} {m s : Nat} {p : Int × Int} (h : AllocQ X t d bs (m : Int) p X') (hd : DOK d bs) (h1 : 1 ≤ m ∧ m ≤ 1048576) (hb : BestAt bs m pre s post) :
  ∃ d',Rep X' t d' ∧ Mv X (d.hs t) X' (d'.hs t) ∧ p = (((1 + sumS pre : Nat) : Int),0) ∧ d'.W = allocW d.W (1 + sumS pre) m s ∧ DOK d' (allocB pre m s post) := by
 obtain ⟨d',r,mv,⟨hn,_⟩ | ⟨m',e,h2,h3,⟨hno,_⟩ | ⟨pre',s',post',hb',q1,q2,q3⟩⟩⟩ := h
 ·exact absurd (by omega) hn
 ·have : m = m' := by omega
  subst this
  exact absurd hb.le (hno _ _ (by rw [hb.e]; exact walk_three.2 (.inr (.inl rfl))))
 ·have : m = m' := by omega
  subst this
  obtain ⟨rfl,rfl,rfl⟩ := hb.uniq hd.w.sz hb'
  exact ⟨d',r,mv,q1,q2,q3⟩

theorem AllocQ.full {bs : List Bl} {m : Nat} {p : Int × Int} (h : AllocQ X t d bs (m : Int) p X') (h1 : 1 ≤ m ∧ m ≤ 1048576) (hno : noFit bs m) : Rep X' t d ∧ Mv X (d.hs t) X' (d.hs t) ∧ p = (0,23) := by
 obtain ⟨d',r,mv,⟨hn,_⟩ | ⟨m',e,h2,h3,⟨_,q1,rfl⟩ | ⟨pre',s',post',hb',q1,q2,q3⟩⟩⟩ := h
 ·exact absurd (by omega) hn
 ·exact ⟨r,mv,q1⟩
 ·have : m = m' := by omega
  subst this
  exact absurd hb'.le (hno _ _ (by rw [hb'.e]; exact walk_three.2 (.inr (.inl rfl))))

theorem FreeQ.ok {bs pre post : List Bl} {s : Nat} {a p : Int} (h : FreeQ X t d bs a p X') (hd : DOK d bs) (e : bs = pre ++ (s,true) :: post) (ea : a = ((1 + sumS pre : Nat) : Int)) :
  ∃ d',Rep X' t d' ∧ Mv X (d.hs t) X' (d'.hs t) ∧ p = 0 ∧ d'.W = freeW d.W (1 + sumS pre - prevS pre) (prevS pre + s + nextS post) ∧ DOK d' (freeB pre s post) := by
 obtain ⟨d',r,mv,⟨hn,_⟩ | ⟨pre',s',post',e',ea',q1,q2,q3⟩⟩ := h
 ·exact absurd ea (hn _ s (by rw [e]; exact walk_three.2 (.inr (.inl rfl))))
 ·have hz := hd.w.sz
  rw [e] at hz
  obtain ⟨e1,e2,e3⟩ := split_uniq hz (e.symm.trans e') (by omega)
  cases e2
  subst e1 e3
  exact ⟨d',r,mv,q1,q2,q3⟩

end Go.Proofs.YtdcljlafookliaaDoor.AB

set_option maxRecDepth 100000
set_option maxHeartbeats 2000000
namespace Go.Proofs.YtdcljlafookliaaDoor.AB
open Go
noncomputable def X103 : Cx := ⟨tt,[],[],[],[],[]⟩
theorem FN103 : fnsB Tryd.prog X103.fns := (show True from trivial)
theorem E103 (t0 : ((List Bool) × Unit)) {R : V → Prop} (h : R (.int .i64 (1:Int))) :
 fnK X103.tt (callN Tryd.prog X103 0) (X103.md 103) (X103.mk1 103) Tryd.f103 [(.v (.agg [(.list .bool t0.1 .no)]))] ⟨[],[],⟨0,[]⟩⟩ (topK R) := Eq.mp (by kernel_rfl) h
end Go.Proofs.YtdcljlafookliaaDoor.AB

set_option maxRecDepth 100000
set_option maxHeartbeats 2000000
namespace Go.Proofs.YtdcljlafookliaaDoor.AB
open Go
noncomputable def X104 : Cx := ⟨tt,[],[],[],[],[]⟩
theorem FN104 : fnsB Tryd.prog X104.fns := (show True from trivial)
theorem E104 (r0 : (Int × Unit)) {R : V → Prop} (h : R (.int .i64 r0.1)) :
 fnK X104.tt (callN Tryd.prog X104 0) (X104.md 104) (X104.mk1 104) Tryd.f104 [(.v (.agg [(.int .i64 r0.1)]))] ⟨[],[],⟨0,[]⟩⟩ (topK R) := Eq.mp (by kernel_rfl) h
end Go.Proofs.YtdcljlafookliaaDoor.AB

set_option maxRecDepth 100000
set_option maxHeartbeats 2000000
namespace Go.Proofs.YtdcljlafookliaaDoor.AB
open Go
noncomputable def X105 : Cx := ⟨tt,[],[],[],[],[]⟩
theorem FN105 : fnsB Tryd.prog X105.fns := (show True from trivial)
theorem E105 (s0 : (Int × Unit)) {R : V → Prop} (h : R (.int .i64 s0.1)) :
 fnK X105.tt (callN Tryd.prog X105 0) (X105.md 105) (X105.mk1 105) Tryd.f105 [(.v (.agg [(.int .i64 s0.1)]))] ⟨[],[],⟨0,[]⟩⟩ (topK R) := Eq.mp (by kernel_rfl) h
end Go.Proofs.YtdcljlafookliaaDoor.AB

namespace Go.Proofs.YtdcljlafookliaaDoor.AB
open Go

inductive Shp where
 | plain (refs : List Bool)
 | row (k : Int)
 | single (k : Int)
 deriving DecidableEq

abbrev tyPlain : Nat := 81
abbrev tyRow : Nat := 83
abbrev tySingle : Nat := 98

def Shp.enc : Shp → Nat × CV
 | .plain r => (tyPlain,⟨.pair (.slice .bool) .unit,(r,())⟩)
 | .row k => (tyRow,⟨.pair (.int .i64) .unit,(k,())⟩)
 | .single k => (tySingle,⟨.pair (.int .i64) .unit,(k,())⟩)

def Shp.kind : Shp → Int
 | .plain _ => 1
 | .row k => k
 | .single k => k

theorem p103 (r : List Bool) : PC Tryd.prog 103 [.agg [.list .bool r .no]] (.int .i64 1) :=
 pcOf (X := X103) rfl FN103 (by kernel_rfl) (by decide) (E103 (r,()) ⟨rfl,rfl⟩)
theorem p104 (k : Int) : PC Tryd.prog 104 [.agg [.int .i64 k]] (.int .i64 k) :=
 pcOf (X := X104) rfl FN104 (by kernel_rfl) (by decide) (E104 (k,()) ⟨rfl,rfl⟩)
theorem p105 (k : Int) : PC Tryd.prog 105 [.agg [.int .i64 k]] (.int .i64 k) :=
 pcOf (X := X105) rfl FN105 (by kernel_rfl) (by decide) (E105 (k,()) ⟨rfl,rfl⟩)

theorem meth81 (v : Value) (w : World) : (callMethod (.iface 81 v) "crucible/object.kind" #[]).run Tryd.prog w = .ok (.enter 103 #[v]) w := by kernel_rfl
theorem meth83 (v : Value) (w : World) : (callMethod (.iface 83 v) "crucible/object.kind" #[]).run Tryd.prog w = .ok (.enter 104 #[v]) w := by kernel_rfl
theorem meth98 (v : Value) (w : World) : (callMethod (.iface 98 v) "crucible/object.kind" #[]).run Tryd.prog w = .ok (.enter 105 #[v]) w := by kernel_rfl

theorem mc_of {m : String} {t : Nat} {f : FuncId} {x : CV} {r : V} (hm : ∀ v w,(callMethod (.iface t v) m #[]).run Tryd.prog w = .ok (.enter f #[v]) w) (h : PC Tryd.prog f [x.1.enc x.2] r) : MC Tryd.prog m (some (t,x)) r := by
 intro G w u hok hu
 cases hu with
 | ifc _ _ y hy =>
  refine ⟨f,#[y],hm y w,(h G w #[y] hok rfl fun i p q hp hq => ?_).2⟩
  match i with
  | 0 => simp at hp hq; subst hp hq; exact hy
  | i + 1 => simp at hp

theorem mc_kind (s : Shp) : MC Tryd.prog "crucible/object.kind" (some s.enc) (.int .i64 s.kind) := by
 cases s with
 | plain r => exact mc_of (x := ⟨.pair (.slice .bool) .unit,(r,())⟩) meth81 (p103 r)
 | row k => exact mc_of (x := ⟨.pair (.int .i64) .unit,(k,())⟩) meth83 (p104 k)
 | single k => exact mc_of (x := ⟨.pair (.int .i64) .unit,(k,())⟩) meth98 (p105 k)

end Go.Proofs.YtdcljlafookliaaDoor.AB

set_option maxRecDepth 100000
set_option maxHeartbeats 2000000
namespace Go.Proofs.YtdcljlafookliaaDoor.AB
open Go
noncomputable def X32 : Cx := ⟨tt,[],[(35,[(.pure (.int .i64)),(.pure (.int .i64))])],[(32,[(1,5,.rd)])],[],[]⟩
theorem FN32 : fnsB Tryd.prog X32.fns := (show True from trivial)
theorem E32 (X : XH) (h0 : Nat) (at1 : Int) {R : ((Option (Nat × CV)) × Bool) → XH → Prop} (h : (∃ (a1 : ((Option Nat) × ((Option Nat) × Int))),XH.el X yZ1 h0 0 = some a1 ∧ (∃ (p2 : Int × Int),RC Tryd.prog 35 [(.pure (.int .i64)),(.pure (.int .i64))] [(.ref a1.1 yZ0 0 []),(.v (.int .i64 at1)),(.v (.int .i64 (0:Int)))] X p2 ∧ (((p2.2 != (0:Int)) = true → R (none,false) X) ∧
 ((p2.2 != (0:Int)) = false → (∃ (a3 : ((Option Nat) × ((Option Nat) × Int))),XH.el X yZ1 h0 0 = some a3 ∧ (∃ (es4 : List (Int × (Option (Nat × CV)))),XH.vmp X (.int .i64) .ifc a3.2.1 = some es4 ∧ (∀ (v5 : (Option (Nat × CV))),mfind (Cd.keq (.int .i64) p2.1) es4 = some v5 → R (v5,true) X) ∧ (mfind (Cd.keq (.int .i64) p2.1) es4 = none → R (none,false) X)))))))) :
  fnK X32.tt (callN Tryd.prog X32 0) (X32.md 32) (X32.mk1 32) Tryd.f32 [(.ref (some h0) yZ1 0 []),(.v (.int .i64 at1))] ⟨[],[some (.heap X)],⟨0,[]⟩⟩ (xfin [.ifc,(.pure .bool)] R) := Eq.mp (by kernel_rfl) h
end Go.Proofs.YtdcljlafookliaaDoor.AB

set_option maxRecDepth 100000
set_option maxHeartbeats 2000000
namespace Go.Proofs.YtdcljlafookliaaDoor.AB
open Go
noncomputable def X13 : Cx := ⟨tt,[],[(32,[.ifc,(.pure .bool)]),(35,[(.pure (.int .i64)),(.pure (.int .i64))])],[(13,[(1,2,.rd),(10,5,.rd)])],[],[]⟩
theorem FN13 : fnsB Tryd.prog X13.fns := (show True from trivial)
theorem E13 (X : XH) (h0 : Nat) (at1 : Int) {R : (Int × Bool) → XH → Prop} (h : (∃ (p1 : (Option (Nat × CV)) × Bool),RC Tryd.prog 32 [.ifc,(.pure .bool)] [(.ref (some h0) yZ1 0 []),(.v (.int .i64 at1))] X p1 ∧ (((!p1.2) = true → R ((0:Int),false) X) ∧
 ((!p1.2) = false → ((∀ (y2 : CV),p1.1 = some (81,y2) → (∃ (a3 : ((List Bool) × Unit)),y2 = (⟨(.pair (.slice .bool) .unit),a3⟩ : CV) ∧ R (((a3.1).length : Int),true) X)) ∧ ((∀ (y2 : CV),p1.1 ≠ some (81,y2)) → ((∀ (y4 : CV),p1.1 = some (83,y4) → (∃ (a5 : (Int × Unit)),y4 = (⟨(.pair (.int .i64) .unit),a5⟩ : CV) ∧ (∃ (a6 : ((Option Nat) × ((Option Nat) × Int))),XH.el X yZ1 h0 0 = some a6 ∧ (∃ (p7 : Int × Int),RC Tryd.prog 35 [(.pure (.int .i64)),(.pure (.int .i64))] [(.ref a6.1 yZ0 0 []),(.v (.int .i64 at1)),(.v (.int .i64 (1:Int)))] X p7 ∧ R (p7.1,true) X)))) ∧ ((∀ (y4 : CV),p1.1 ≠ some (83,y4)) → R ((1:Int),true) X)))))))) :
  fnK X13.tt (callN Tryd.prog X13 0) (X13.md 13) (X13.mk1 13) Tryd.f13 [(.ref (some h0) yZ1 0 []),(.v (.int .i64 at1))] ⟨[],[some (.heap X)],⟨0,[]⟩⟩ (xfin [(.pure (.int .i64)),(.pure .bool)] R) := Eq.mp (by kernel_rfl) h
end Go.Proofs.YtdcljlafookliaaDoor.AB

set_option maxRecDepth 100000
set_option maxHeartbeats 2000000
namespace Go.Proofs.YtdcljlafookliaaDoor.AB
open Go
noncomputable def X36 : Cx := ⟨tt,[],[(13,[(.pure (.int .i64)),(.pure .bool)]),(32,[.ifc,(.pure .bool)])],[(36,[(1,2,.rd),(4,2,.rd),(14,1,.meth "crucible/object.kind" (.int .i64))])],[],[]⟩
theorem FN36 : fnsB Tryd.prog X36.fns := (show True from trivial)
theorem E36 (X : XH) (h0 : Nat) (at1 : Int) (i2 : Int) {R : (Int × Bool × Int) → XH → Prop} (h : (∃ (p1 : (Option (Nat × CV)) × Bool),RC Tryd.prog 32 [.ifc,(.pure .bool)] [(.ref (some h0) yZ1 0 []),(.v (.int .i64 at1))] X p1 ∧ (((!p1.2) = true → R ((0:Int),false,(24:Int)) X) ∧
 ((!p1.2) = false → (∃ (p2 : Int × Bool),RC Tryd.prog 13 [(.pure (.int .i64)),(.pure .bool)] [(.ref (some h0) yZ1 0 []),(.v (.int .i64 at1))] X p2 ∧ (((decide (i2 < (0:Int))) = true → R ((0:Int),false,(1:Int)) X) ∧ ((decide (i2 < (0:Int))) = false → (((decide (i2 ≥ p2.1)) = true → R ((0:Int),false,(1:Int)) X) ∧
 ((decide (i2 ≥ p2.1)) = false → ((∀ (y3 : CV),p1.1 = some (81,y3) → (∃ (a4 : ((List Bool) × Unit)),y3 = (⟨(.pair (.slice .bool) .unit),a4⟩ : CV) ∧ (0 ≤ i2 ∧ i2 < ((a4.1).length : Int) ∧ R ((IntKind.wrap .i64 ((1:Int) + i2)),(a4.1.getD (i2).toNat false),(0:Int)) X))) ∧ ((∀ (y3 : CV),p1.1 ≠ some (81,y3)) → ((∀ (y5 : CV),p1.1 = some (83,y5) → (∃ (a6 : (Int × Unit)),y5 = (⟨(.pair (.int .i64) .unit),a6⟩ : CV) ∧ R ((IntKind.wrap .i64 ((2:Int) + i2)),(a6.1 == (3:Int)),(0:Int)) X)) ∧ ((∀ (y5 : CV),p1.1 ≠ some (83,y5)) → (∃ (p7 : Int),MC Tryd.prog "crucible/object.kind" p1.1 (.int .i64 p7) ∧ R ((1:Int),(p7 == (5:Int)),(0:Int)) X)))))))))))))) :
  fnK X36.tt (callN Tryd.prog X36 0) (X36.md 36) (X36.mk1 36) Tryd.f36 [(.ref (some h0) yZ1 0 []),(.v (.int .i64 at1)),(.v (.int .i64 i2))] ⟨[],[some (.heap X)],⟨0,[]⟩⟩ (xfin [(.pure (.int .i64)),(.pure .bool),(.pure (.int .i64))] R) := Eq.mp (by kernel_rfl) h
end Go.Proofs.YtdcljlafookliaaDoor.AB

set_option maxRecDepth 100000
set_option maxHeartbeats 2000000
namespace Go.Proofs.YtdcljlafookliaaDoor.AB
open Go
noncomputable def X17 : Cx := ⟨tt,[],[(35,[(.pure (.int .i64)),(.pure (.int .i64))]),(36,[(.pure (.int .i64)),(.pure .bool),(.pure (.int .i64))])],[(17,[(1,3,.rd),(4,6,.rd)])],[],[]⟩
theorem FN17 : fnsB Tryd.prog X17.fns := (show True from trivial)
theorem E17 (X : XH) (h0 : Nat) (at1 : Int) (i2 : Int) {R : (Int × Bool × Int) → XH → Prop} (h : (∃ (p1 : Int × Bool × Int),RC Tryd.prog 36 [(.pure (.int .i64)),(.pure .bool),(.pure (.int .i64))] [(.ref (some h0) yZ1 0 []),(.v (.int .i64 at1)),(.v (.int .i64 i2))] X p1 ∧ (((p1.2.2 != (0:Int)) = true → R ((0:Int),false,p1.2.2) X) ∧
 ((p1.2.2 != (0:Int)) = false → (∃ (a2 : ((Option Nat) × ((Option Nat) × Int))),XH.el X yZ1 h0 0 = some a2 ∧ (∃ (p3 : Int × Int),RC Tryd.prog 35 [(.pure (.int .i64)),(.pure (.int .i64))] [(.ref a2.1 yZ0 0 []),(.v (.int .i64 at1)),(.v (.int .i64 p1.1))] X p3 ∧ R (p3.1,p1.2.1,(0:Int)) X)))))) :
  fnK X17.tt (callN Tryd.prog X17 0) (X17.md 17) (X17.mk1 17) Tryd.f17 [(.ref (some h0) yZ1 0 []),(.v (.int .i64 at1)),(.v (.int .i64 i2))] ⟨[],[some (.heap X)],⟨0,[]⟩⟩ (xfin [(.pure (.int .i64)),(.pure .bool),(.pure (.int .i64))] R) := Eq.mp (by kernel_rfl) h
end Go.Proofs.YtdcljlafookliaaDoor.AB

set_option maxRecDepth 100000
set_option maxHeartbeats 2000000
namespace Go.Proofs.YtdcljlafookliaaDoor.AB
open Go
noncomputable def X19 : Cx := ⟨tt,[],[(32,[.ifc,(.pure .bool)]),(35,[(.pure (.int .i64)),(.pure (.int .i64))])],[(19,[(1,2,.rd),(4,5,.rd)])],[],[]⟩
theorem FN19 : fnsB Tryd.prog X19.fns := (show True from trivial)
theorem E19 (X : XH) (h0 : Nat) (at1 : Int) {R : (Int × Bool) → XH → Prop} (h : (∃ (p1 : (Option (Nat × CV)) × Bool),RC Tryd.prog 32 [.ifc,(.pure .bool)] [(.ref (some h0) yZ1 0 []),(.v (.int .i64 at1))] X p1 ∧ (((!p1.2) = true → R ((0:Int),false) X) ∧
 ((!p1.2) = false → (∃ (a2 : ((Option Nat) × ((Option Nat) × Int))),XH.el X yZ1 h0 0 = some a2 ∧ (∃ (p3 : Int × Int),RC Tryd.prog 35 [(.pure (.int .i64)),(.pure (.int .i64))] [(.ref a2.1 yZ0 0 []),(.v (.int .i64 at1)),(.v (.int .i64 (0:Int)))] X p3 ∧ R (p3.1,true) X)))))) :
  fnK X19.tt (callN Tryd.prog X19 0) (X19.md 19) (X19.mk1 19) Tryd.f19 [(.ref (some h0) yZ1 0 []),(.v (.int .i64 at1))] ⟨[],[some (.heap X)],⟨0,[]⟩⟩ (xfin [(.pure (.int .i64)),(.pure .bool)] R) := Eq.mp (by kernel_rfl) h
end Go.Proofs.YtdcljlafookliaaDoor.AB

set_option maxRecDepth 100000
set_option maxHeartbeats 2000000
namespace Go.Proofs.YtdcljlafookliaaDoor.AB
open Go
noncomputable def X20 : Cx := ⟨tt,[],[(37,[(.pure (.int .i64)),(.pure (.int .i64))]),(38,[(.pure .bool)])],[(20,[(1,3,.rd),(2,8,.rd)])],[],[]⟩
theorem FN20 : fnsB Tryd.prog X20.fns := (show True from trivial)
theorem E20 (X : XH) (h0 : Nat) (id1 : Int) (n2 : Int) {R : (Bool) → XH → Prop} (h : (∃ (p1 : Int × Int),RC Tryd.prog 37 [(.pure (.int .i64)),(.pure (.int .i64))] [(.ref (some h0) yZ1 0 []),(.v (.int .i64 id1)),(.v (.int .i64 n2))] X p1 ∧ (((p1.2 == (0:Int)) = true → (∃ (a2 : ((Option Nat) × ((Option Nat) × Int))),XH.el X yZ1 h0 0 = some a2 ∧ (∃ (p3 : Bool),RC Tryd.prog 38 [(.pure .bool)] [(.ref a2.1 yZ0 0 []),(.v (.int .i64 p1.1))] X p3 ∧ R p3 X))) ∧ ((p1.2 == (0:Int)) = false → R false X)))) :
 fnK X20.tt (callN Tryd.prog X20 0) (X20.md 20) (X20.mk1 20) Tryd.f20 [(.ref (some h0) yZ1 0 []),(.v (.int .i64 id1)),(.v (.int .i64 n2))] ⟨[],[some (.heap X)],⟨0,[]⟩⟩ (xfin [(.pure .bool)] R) := Eq.mp (by kernel_rfl) h
end Go.Proofs.YtdcljlafookliaaDoor.AB

set_option maxRecDepth 100000
set_option maxHeartbeats 2000000
namespace Go.Proofs.YtdcljlafookliaaDoor.AB
open Go
noncomputable def X37 : Cx := ⟨tt,[],[],[],[],[]⟩
theorem FN37 : fnsB Tryd.prog X37.fns := (show True from trivial)
theorem E37 (X : XH) (h0 : Nat) (id1 : Int) (n2 : Int) {R : (Int × Int) → XH → Prop} (h : (∃ (a1 : ((Option Nat) × ((Option Nat) × Int))),XH.el X yZ1 h0 0 = some a1 ∧ (∃ (es2 : List (Int × (Option (Nat × CV)))),XH.vmp X (.int .i64) .ifc a1.2.1 = some es2 ∧ (∀ (v3 : (Option (Nat × CV))),mfind (Cd.keq (.int .i64) id1) es2 = some v3 → (((!true) = true → R ((0:Int),(24:Int)) X) ∧
 ((!true) = false → (((decide (n2 < (0:Int))) = true → R ((0:Int),(1:Int)) X) ∧ ((decide (n2 < (0:Int))) = false → (((decide (n2 > (1048576:Int))) = true → R ((0:Int),(1:Int)) X) ∧
 ((decide (n2 > (1048576:Int))) = false → (∃ (a4 : ((Option Nat) × ((Option Nat) × Int))),XH.el X yZ1 h0 0 = some a4 ∧ (∃ (es5 : List (Int × (Option (Nat × CV)))),XH.vmp X (.int .i64) .ifc a4.2.1 = some es5 ∧ (∀ (v6 : (Option (Nat × CV))),mfind (Cd.keq (.int .i64) id1) es5 = some v6 → ((∀ (y7 : CV),v6 = some (83,y7) → (∃ (a8 : (Int × Unit)),y7 = (⟨(.pair (.int .i64) .unit),a8⟩ : CV) ∧ R ((IntKind.wrap .i64 ((2:Int) + n2)),(0:Int)) X)) ∧ ((∀ (y7 : CV),v6 ≠ some (83,y7)) → ((∀ (y9 : CV),v6 = some (81,y9) → (∃ (a10 : ((List Bool) × Unit)),y9 = (⟨(.pair (.slice .bool) .unit),a10⟩ : CV) ∧ (((n2 != (0:Int)) = true → R ((0:Int),(1:Int)) X) ∧
 ((n2 != (0:Int)) = false → R ((IntKind.wrap .i64 ((1:Int) + (if ((a10.1).length : Int) > (1:Int) then ((a10.1).length : Int) else (1:Int)))),(0:Int)) X)))) ∧ ((∀ (y9 : CV),v6 ≠ some (81,y9)) → (((n2 != (0:Int)) = true → R ((0:Int),(1:Int)) X) ∧
 ((n2 != (0:Int)) = false → R ((2:Int),(0:Int)) X))))))) ∧ (mfind (Cd.keq (.int .i64) id1) es5 = none → ((∀ (y11 : CV),none = some (83,y11) → (∃ (a12 : (Int × Unit)),y11 = (⟨(.pair (.int .i64) .unit),a12⟩ : CV) ∧ R ((IntKind.wrap .i64 ((2:Int) + n2)),(0:Int)) X)) ∧ ((∀ (y11 : CV),none ≠ some (83,y11)) → ((∀ (y13 : CV),none = some (81,y13) → (∃ (a14 : ((List Bool) × Unit)),y13 = (⟨(.pair (.slice .bool) .unit),a14⟩ : CV) ∧ (((n2 != (0:Int)) = true → R ((0:Int),(1:Int)) X) ∧
 ((n2 != (0:Int)) = false → R ((IntKind.wrap .i64 ((1:Int) + (if ((a14.1).length : Int) > (1:Int) then ((a14.1).length : Int) else (1:Int)))),(0:Int)) X)))) ∧ ((∀ (y13 : CV),none ≠ some (81,y13)) → (((n2 != (0:Int)) = true → R ((0:Int),(1:Int)) X) ∧
 ((n2 != (0:Int)) = false → R ((2:Int),(0:Int)) X)))))))))))))))) ∧ (mfind (Cd.keq (.int .i64) id1) es2 = none → (((!false) = true → R ((0:Int),(24:Int)) X) ∧
 ((!false) = false → (((decide (n2 < (0:Int))) = true → R ((0:Int),(1:Int)) X) ∧ ((decide (n2 < (0:Int))) = false → (((decide (n2 > (1048576:Int))) = true → R ((0:Int),(1:Int)) X) ∧
 ((decide (n2 > (1048576:Int))) = false → (∃ (a15 : ((Option Nat) × ((Option Nat) × Int))),XH.el X yZ1 h0 0 = some a15 ∧ (∃ (es16 : List (Int × (Option (Nat × CV)))),XH.vmp X (.int .i64) .ifc a15.2.1 = some es16 ∧ (∀ (v17 : (Option (Nat × CV))),mfind (Cd.keq (.int .i64) id1) es16 = some v17 → ((∀ (y18 : CV),v17 = some (83,y18) → (∃ (a19 : (Int × Unit)),y18 = (⟨(.pair (.int .i64) .unit),a19⟩ : CV) ∧ R ((IntKind.wrap .i64 ((2:Int) + n2)),(0:Int)) X)) ∧ ((∀ (y18 : CV),v17 ≠ some (83,y18)) → ((∀ (y20 : CV),v17 = some (81,y20) → (∃ (a21 : ((List Bool) × Unit)),y20 = (⟨(.pair (.slice .bool) .unit),a21⟩ : CV) ∧ (((n2 != (0:Int)) = true → R ((0:Int),(1:Int)) X) ∧
 ((n2 != (0:Int)) = false → R ((IntKind.wrap .i64 ((1:Int) + (if ((a21.1).length : Int) > (1:Int) then ((a21.1).length : Int) else (1:Int)))),(0:Int)) X)))) ∧ ((∀ (y20 : CV),v17 ≠ some (81,y20)) → (((n2 != (0:Int)) = true → R ((0:Int),(1:Int)) X) ∧
 ((n2 != (0:Int)) = false → R ((2:Int),(0:Int)) X))))))) ∧ (mfind (Cd.keq (.int .i64) id1) es16 = none → ((∀ (y22 : CV),none = some (83,y22) → (∃ (a23 : (Int × Unit)),y22 = (⟨(.pair (.int .i64) .unit),a23⟩ : CV) ∧ R ((IntKind.wrap .i64 ((2:Int) + n2)),(0:Int)) X)) ∧ ((∀ (y22 : CV),none ≠ some (83,y22)) → ((∀ (y24 : CV),none = some (81,y24) → (∃ (a25 : ((List Bool) × Unit)),y24 = (⟨(.pair (.slice .bool) .unit),a25⟩ : CV) ∧ (((n2 != (0:Int)) = true → R ((0:Int),(1:Int)) X) ∧
 ((n2 != (0:Int)) = false → R ((IntKind.wrap .i64 ((1:Int) + (if ((a25.1).length : Int) > (1:Int) then ((a25.1).length : Int) else (1:Int)))),(0:Int)) X)))) ∧ ((∀ (y24 : CV),none ≠ some (81,y24)) → (((n2 != (0:Int)) = true → R ((0:Int),(1:Int)) X) ∧
 ((n2 != (0:Int)) = false → R ((2:Int),(0:Int)) X))))))))))))))))))) :
  fnK X37.tt (callN Tryd.prog X37 0) (X37.md 37) (X37.mk1 37) Tryd.f37 [(.ref (some h0) yZ1 0 []),(.v (.int .i64 id1)),(.v (.int .i64 n2))] ⟨[],[some (.heap X)],⟨0,[]⟩⟩ (xfin [(.pure (.int .i64)),(.pure (.int .i64))] R) := Eq.mp (by kernel_rfl) h
end Go.Proofs.YtdcljlafookliaaDoor.AB

set_option maxRecDepth 100000
set_option maxHeartbeats 2000000
namespace Go.Proofs.YtdcljlafookliaaDoor.AB
open Go
noncomputable def X21 : Cx := ⟨tt,[],[(41,[(.pure (.int .i64)),(.pure (.int .i64))])],[(21,[(1,4,.rd)])],[],[]⟩
theorem FN21 : fnsB Tryd.prog X21.fns := (show True from trivial)
theorem E21 (X : XH) (h0 : Nat) {R : (Int × Int) → XH → Prop} (h : (∃ (a1 : ((Option Nat) × ((Option Nat) × Int))),XH.el X yZ1 h0 0 = some a1 ∧ (∃ (p2 : Int × Int),RC Tryd.prog 41 [(.pure (.int .i64)),(.pure (.int .i64))] [(.ref a1.1 yZ0 0 [])] X p2 ∧ R (p2.1,p2.2) X))) :
 fnK X21.tt (callN Tryd.prog X21 0) (X21.md 21) (X21.mk1 21) Tryd.f21 [(.ref (some h0) yZ1 0 [])] ⟨[],[some (.heap X)],⟨0,[]⟩⟩ (xfin [(.pure (.int .i64)),(.pure (.int .i64))] R) := Eq.mp (by kernel_rfl) h
end Go.Proofs.YtdcljlafookliaaDoor.AB

set_option maxRecDepth 100000
set_option maxHeartbeats 2000000
namespace Go.Proofs.YtdcljlafookliaaDoor.AB
open Go
noncomputable def X24 : Cx := ⟨tt,[],[(43,[(.pure (.slice (.int .i64)))])],[(24,[(1,4,.rd)])],[],[]⟩
theorem FN24 : fnsB Tryd.prog X24.fns := (show True from trivial)
theorem E24 (X : XH) (h0 : Nat) {R : ((List Int)) → XH → Prop} (h : (∃ (a1 : ((Option Nat) × ((Option Nat) × Int))),XH.el X yZ1 h0 0 = some a1 ∧ (∃ (p2 : (List Int)),RC Tryd.prog 43 [(.pure (.slice (.int .i64)))] [(.ref a1.1 yZ0 0 [])] X p2 ∧ R p2 X))) :
 fnK X24.tt (callN Tryd.prog X24 0) (X24.md 24) (X24.mk1 24) Tryd.f24 [(.ref (some h0) yZ1 0 [])] ⟨[],[some (.heap X)],⟨0,[]⟩⟩ (xfin [(.pure (.slice (.int .i64)))] R) := Eq.mp (by kernel_rfl) h
end Go.Proofs.YtdcljlafookliaaDoor.AB

set_option maxRecDepth 100000
set_option maxHeartbeats 2000000
namespace Go.Proofs.YtdcljlafookliaaDoor.AB
open Go
noncomputable def X25 : Cx := ⟨tt,[],[(44,[(.pure (.int .i64)),(.pure .bool)])],[(25,[(1,5,.rd)])],[],[]⟩
theorem FN25 : fnsB Tryd.prog X25.fns := (show True from trivial)
theorem E25 (X : XH) (h0 : Nat) (i1 : Int) {R : (Int × Bool) → XH → Prop} (h : (∃ (a1 : ((Option Nat) × ((Option Nat) × Int))),XH.el X yZ1 h0 0 = some a1 ∧ (∃ (p2 : Int × Bool),RC Tryd.prog 44 [(.pure (.int .i64)),(.pure .bool)] [(.ref a1.1 yZ0 0 []),(.v (.int .i64 i1))] X p2 ∧ R (p2.1,p2.2) X))) :
 fnK X25.tt (callN Tryd.prog X25 0) (X25.md 25) (X25.mk1 25) Tryd.f25 [(.ref (some h0) yZ1 0 []),(.v (.int .i64 i1))] ⟨[],[some (.heap X)],⟨0,[]⟩⟩ (xfin [(.pure (.int .i64)),(.pure .bool)] R) := Eq.mp (by kernel_rfl) h
end Go.Proofs.YtdcljlafookliaaDoor.AB

namespace Go.Proofs.YtdcljlafookliaaDoor.AB
open Go

abbrev cH : Xd := yZ1

structure OD where
 t : Nat
 d : AD
 hm : Nat
 ts : List (Int × Shp)
 last : Int

def OD.val (o : OD) : cH.T := (some o.t,some o.hm,o.last)

def tsE (ts : List (Int × Shp)) : List (Int × Option (Nat × CV)) := ts.map fun e => (e.1,some e.2.enc)

def tfind (ts : List (Int × Shp)) (k : Int) : Option Shp := mfind (eqI k) ts

theorem tsE_find (ts : List (Int × Shp)) (k : Int) : mfind (Cd.keq (.int .i64) k) (tsE ts) = (tfind ts k).map fun s => some s.enc := by
 induction ts with
 | nil => rfl
 | cons e r ih =>
  obtain ⟨a,s⟩ := e
  unfold tfind at *
  simp only [tsE,List.map_cons,mfind]
  cases h : Cd.keq (.int .i64) k a
  ·rw [show eqI k a = false from h]; exact ih
  ·rw [show eqI k a = true from h]; rfl

def OD.hs (o : OD) (h : Nat) : List Nat := h :: o.hm :: o.d.hs o.t

structure RepH (X : XH) (h : Nat) (o : OD) : Prop where
 box : Box X cH h o.val
 r : Rep X o.t o.d
 m : X.at o.hm = some (.map (.int .i64) .ifc (tsE o.ts))
 n1 : h ≠ o.hm
 n2 : h ∉ o.d.hs o.t
 n3 : o.hm ∉ o.d.hs o.t

variable {X X' : XH} {h : Nat} {o : OD} {bs : List Bl}

theorem mem_ohs {k : Nat} : k ∈ o.hs h ↔ k = h ∨ k = o.hm ∨ k ∈ o.d.hs o.t := by
 simp [OD.hs]

theorem RepH.lt (r : RepH X h o) : ∀ k ∈ o.hs h,k < X.n := by
 intro k hk
 rcases mem_ohs.1 hk with rfl | rfl | hk
 ·exact r.box.lt
 ·exact at_lt r.m
 ·exact r.r.lt k hk

theorem RepH.keep (r : RepH X h o) (e : ∀ k ∈ o.hs h,X'.at k = X.at k) : RepH X' h o :=
 ⟨r.box.keep (e _ (mem_ohs.2 (.inl rfl))),r.r.keep fun k hk => e k (mem_ohs.2 (.inr (.inr hk))),(e _ (mem_ohs.2 (.inr (.inl rfl)))).trans r.m,r.n1,r.n2,r.n3⟩

theorem RepH.mv {S S' : List Nat} (r : RepH X h o) (m : Mv X S X' S') (hd : ∀ k ∈ o.hs h,k ∉ S) : RepH X' h o := r.keep fun k hk => m.keep k (r.lt k hk) (hd k hk)

theorem RepH.el (r : RepH X h o) : X.el cH h 0 = some o.val := r.box.el

theorem RepH.vmp (r : RepH X h o) : XH.vmp X (.int .i64) .ifc (some o.hm) = some (tsE o.ts) := mp_at.2 r.m

def objR (o : OD) (bs : List Bl) (a : Int) : Option Shp :=
 if (readR o.d.W bs a 0).2 = 0 then tfind o.ts (readR o.d.W bs a 0).1 else none

theorem c32 (r : RepH X h o) (hd : DOK o.d bs) (a : Int) : RC Tryd.prog 32 [.ifc,.pure .bool] [.ref (some h) cH 0 [],.v (.int .i64 a)] X ((objR o bs a).map Shp.enc,(objR o bs a).isSome) := by
 refine xcOf (X := X32) rfl FN32 (by kernel_rfl) (by decide) (E32 X h a ⟨o.val,r.el,_,c35 r.r hd a 0,fun e => ?_,fun e => ?_⟩)
 ·have e : ¬ (readR o.d.W bs a 0).2 = 0 := by simpa using e
  rw [show objR o bs a = none from if_neg e]; exact ⟨rfl,rfl⟩
 ·have e : (readR o.d.W bs a 0).2 = 0 := by simpa using e
  have ho : objR o bs a = tfind o.ts (readR o.d.W bs a 0).1 := by simp only [objR,if_pos e]
  refine ⟨o.val,r.el,_,r.vmp,fun v hv => ?_,fun hv => ?_⟩
  ·rw [tsE_find] at hv
   rw [ho]
   cases hf : tfind o.ts (readR o.d.W bs a 0).1 with
   | none => rw [hf] at hv; cases hv
   | some s => rw [hf] at hv; cases hv; exact ⟨rfl,rfl⟩
  ·rw [tsE_find] at hv
   rw [ho]
   cases hf : tfind o.ts (readR o.d.W bs a 0).1 with
   | none => exact ⟨rfl,rfl⟩
   | some s => rw [hf] at hv; cases hv

theorem sw_plain {s : Option Shp} {y : CV} (e : s.map Shp.enc = some (tyPlain,y)) : ∃ r,s = some (.plain r) ∧ y = ⟨.pair (.slice .bool) .unit,(r,())⟩ := by
 cases s with
 | none => cases e
 | some s =>
  have e := Option.some.inj e
  cases s with
  | plain r => exact ⟨r,rfl,(congrArg Prod.snd e).symm⟩
  | row k => exact absurd (show tyRow = tyPlain from congrArg Prod.fst e) (by decide)
  | single k => exact absurd (show tySingle = tyPlain from congrArg Prod.fst e) (by decide)

theorem sw_row {s : Option Shp} {y : CV} (e : s.map Shp.enc = some (tyRow,y)) : ∃ k,s = some (.row k) ∧ y = ⟨.pair (.int .i64) .unit,(k,())⟩ := by
 cases s with
 | none => cases e
 | some s =>
  have e := Option.some.inj e
  cases s with
  | plain r => exact absurd (show tyPlain = tyRow from congrArg Prod.fst e) (by decide)
  | row k => exact ⟨k,rfl,(congrArg Prod.snd e).symm⟩
  | single k => exact absurd (show tySingle = tyRow from congrArg Prod.fst e) (by decide)

theorem sw_rest {s : Shp} (e1 : ∀ y : CV,(some s).map Shp.enc ≠ some (tyPlain,y)) (e2 : ∀ y : CV,(some s).map Shp.enc ≠ some (tyRow,y)) : ∃ k,s = .single k := by
 cases s with
 | plain r => exact absurd rfl (e1 _)
 | row k => exact absurd rfl (e2 _)
 | single k => exact ⟨k,rfl⟩

def lenS (o : OD) (bs : List Bl) (a : Int) : Shp → Int
 | .plain r => (r.length : Int)
 | .row _ => (readR o.d.W bs a 1).1
 | .single _ => 1

def lenR (o : OD) (bs : List Bl) (a : Int) : Int × Bool :=
 match objR o bs a with
 | none => (0,false)
 | some s => (lenS o bs a s,true)

theorem lenR_none {a : Int} (ho : objR o bs a = none) : lenR o bs a = (0,false) := by unfold lenR; rw [ho]
theorem lenR_some {a : Int} {s : Shp} (ho : objR o bs a = some s) : lenR o bs a = (lenS o bs a s,true) := by unfold lenR; rw [ho]

theorem c13 (r : RepH X h o) (hd : DOK o.d bs) (a : Int) : RC Tryd.prog 13 [.pure (.int .i64),.pure .bool] [.ref (some h) cH 0 [],.v (.int .i64 a)] X (lenR o bs a) := by
 refine xcOf (X := X13) rfl FN13 (by kernel_rfl) (by decide) (E13 X h a ⟨_,c32 r hd a,fun e => ?_,fun e => ?_⟩)
 ·cases ho : objR o bs a with
  | none => rw [lenR_none ho]; exact ⟨rfl,rfl⟩
  | some s => rw [ho] at e; cases e
 ·cases ho : objR o bs a with
  | none => rw [ho] at e; cases e
  | some s =>
   rw [lenR_some ho]
   refine ⟨fun y hy => ?_,fun n1 => ⟨fun y hy => ?_,fun n2 => ?_⟩⟩
   ·obtain ⟨q,e1,rfl⟩ := sw_plain (s := some s) hy
    cases e1
    exact ⟨_,rfl,rfl,rfl⟩
   ·obtain ⟨q,e1,rfl⟩ := sw_row (s := some s) hy
    cases e1
    exact ⟨_,rfl,o.val,r.el,_,c35 r.r hd a 1,rfl,rfl⟩
   ·obtain ⟨k,rfl⟩ := sw_rest n1 n2
    exact ⟨rfl,rfl⟩

def slotS (s : Shp) (i : Int) : Int × Bool :=
 match s with
 | .plain r => (W64 (1 + i),r.getD i.toNat false)
 | .row k => (W64 (2 + i),k == 3)
 | .single k => (1,k == 5)

def slotR (o : OD) (bs : List Bl) (a i : Int) : Int × Bool × Int :=
 match objR o bs a with
 | none => (0,false,24)
 | some s => if i < 0 then (0,false,1) else if i ≥ lenS o bs a s then (0,false,1) else ((slotS s i).1,(slotS s i).2,0)

theorem slotR_none {a i : Int} (ho : objR o bs a = none) : slotR o bs a i = (0,false,24) := by unfold slotR; rw [ho]
theorem slotR_some {a i : Int} {s : Shp} (ho : objR o bs a = some s) : slotR o bs a i = if i < 0 then (0,false,1) else if i ≥ lenS o bs a s then (0,false,1) else ((slotS s i).1,(slotS s i).2,0) := by unfold slotR; rw [ho]

theorem c36 (r : RepH X h o) (hd : DOK o.d bs) (a i : Int) : RC Tryd.prog 36 [.pure (.int .i64),.pure .bool,.pure (.int .i64)] [.ref (some h) cH 0 [],.v (.int .i64 a),.v (.int .i64 i)] X (slotR o bs a i) := by
 refine xcOf (X := X36) rfl FN36 (by kernel_rfl) (by decide) (E36 X h a i ⟨_,c32 r hd a,fun e => ?_,fun e => ⟨_,c13 r hd a,?_⟩⟩)
 ·cases ho : objR o bs a with
  | none => rw [slotR_none ho]; exact ⟨rfl,rfl⟩
  | some s => rw [ho] at e; cases e
 ·cases ho : objR o bs a with
  | none => rw [ho] at e; cases e
  | some s =>
   rw [slotR_some ho,lenR_some ho]
   refine ⟨fun e1 => ?_,fun e1 => ⟨fun e2 => ?_,fun e2 => ⟨fun y hy => ?_,fun n1 => ⟨fun y hy => ?_,fun n2 => ?_⟩⟩⟩⟩
   ·rw [if_pos (of_decide_eq_true e1)]; exact ⟨rfl,rfl⟩
   ·rw [if_neg (of_decide_eq_false e1),if_pos (of_decide_eq_true e2)]; exact ⟨rfl,rfl⟩
   ·have e1 := of_decide_eq_false e1
    have e2 := of_decide_eq_false e2
    obtain ⟨q,e3,rfl⟩ := sw_plain (s := some s) hy
    cases e3
    have e2' : ¬ i ≥ (q.length : Int) := e2
    rw [if_neg e1,if_neg e2]
    exact ⟨_,rfl,by omega,by show i < (q.length : Int); omega,rfl,rfl⟩
   ·have e1 := of_decide_eq_false e1
    have e2 := of_decide_eq_false e2
    obtain ⟨q,e3,rfl⟩ := sw_row (s := some s) hy
    cases e3
    rw [if_neg e1,if_neg e2]
    exact ⟨_,rfl,rfl,rfl⟩
   ·have e1 := of_decide_eq_false e1
    have e2 := of_decide_eq_false e2
    obtain ⟨k,rfl⟩ := sw_rest n1 n2
    rw [if_neg e1,if_neg e2]
    exact ⟨_,mc_kind (.single k),rfl,rfl⟩

def getR (o : OD) (bs : List Bl) (a i : Int) : Int × Bool × Int :=
 let s := slotR o bs a i
 if s.2.2 = 0 then ((readR o.d.W bs a s.1).1,s.2.1,0) else (0,false,s.2.2)

theorem c17 (r : RepH X h o) (hd : DOK o.d bs) (a i : Int) : RC Tryd.prog 17 [.pure (.int .i64),.pure .bool,.pure (.int .i64)] [.ref (some h) cH 0 [],.v (.int .i64 a),.v (.int .i64 i)] X (getR o bs a i) := by
 refine xcOf (X := X17) rfl FN17 (by kernel_rfl) (by decide) (E17 X h a i ⟨_,c36 r hd a i,fun e => ?_,fun e => ⟨o.val,r.el,_,c35 r.r hd a _,?_⟩⟩)
 ·have e : ¬ (slotR o bs a i).2.2 = 0 := by simpa using e
  rw [show getR o bs a i = (0,false,(slotR o bs a i).2.2) from if_neg e]; exact ⟨rfl,rfl⟩
 ·have e : (slotR o bs a i).2.2 = 0 := by simpa using e
  rw [show getR o bs a i = ((readR o.d.W bs a (slotR o bs a i).1).1,(slotR o bs a i).2.1,0) from if_pos e]; exact ⟨rfl,rfl⟩

def idR (o : OD) (bs : List Bl) (a : Int) : Int × Bool :=
 match objR o bs a with
 | none => (0,false)
 | some _ => ((readR o.d.W bs a 0).1,true)

theorem idR_none {a : Int} (ho : objR o bs a = none) : idR o bs a = (0,false) := by unfold idR; rw [ho]
theorem idR_some {a : Int} {s : Shp} (ho : objR o bs a = some s) : idR o bs a = ((readR o.d.W bs a 0).1,true) := by unfold idR; rw [ho]

theorem c19 (r : RepH X h o) (hd : DOK o.d bs) (a : Int) : RC Tryd.prog 19 [.pure (.int .i64),.pure .bool] [.ref (some h) cH 0 [],.v (.int .i64 a)] X (idR o bs a) := by
 refine xcOf (X := X19) rfl FN19 (by kernel_rfl) (by decide) (E19 X h a ⟨_,c32 r hd a,fun e => ?_,fun e => ⟨o.val,r.el,_,c35 r.r hd a 0,?_⟩⟩)
 ·cases ho : objR o bs a with
  | none => rw [idR_none ho]; exact ⟨rfl,rfl⟩
  | some s => rw [ho] at e; cases e
 ·cases ho : objR o bs a with
  | none => rw [ho] at e; cases e
  | some s => rw [idR_some ho]; exact ⟨rfl,rfl⟩

end Go.Proofs.YtdcljlafookliaaDoor.AB

set_option maxRecDepth 100000
set_option maxHeartbeats 2000000
namespace Go.Proofs.YtdcljlafookliaaDoor.AB
open Go
noncomputable def X42 : Cx := ⟨tt,[],[],[(42,[(1,1,.lend)])],[],[]⟩
theorem FN42 : fnsB Tryd.prog X42.fns := (show True from trivial)
theorem E42 (s0 : (List Bool)) {R : V → Prop} (h : (∀ (b1 : Bool),(b1 = true → s0 = []) → ((b1 = true → R (.list .bool ([] : List Bool) .no)) ∧
 (b1 = false → (Tok.own .exact ([]) ∧ ((([] : List Bool)).length + (s0).length) * 1 ≤ room ∧ R (.list .bool ((([] : List Bool) ++ s0)) .no)))))) :
  fnK X42.tt (callN Tryd.prog X42 0) (X42.md 42) (X42.mk1 42) Tryd.f42 [(.v (.list .bool s0 .no))] ⟨[],[],⟨0,[]⟩⟩ (topK R) := Eq.mp (by kernel_rfl) h
end Go.Proofs.YtdcljlafookliaaDoor.AB

set_option maxRecDepth 100000
set_option maxHeartbeats 2000000
namespace Go.Proofs.YtdcljlafookliaaDoor.AB
open Go
noncomputable def X28 : Cx := ⟨tt,[(42,[.cd (.slice .bool)])],[],[],[],[]⟩
theorem FN28 : fnsB Tryd.prog X28.fns := (show True from trivial)
theorem E28 (X : XH) (t0 : (Int × (List Bool))) {R : ((Option (Nat × CV))) → XH → Prop} (h : (((t0.1 == (1:Int)) = true → (∃ p1 : (List Bool),PC Tryd.prog 42 [(.list .bool t0.2 .no)] (.list .bool p1 .no) ∧ R ((some ((81,(⟨(.pair (.slice .bool) .unit),(p1,())⟩ : CV))))) X)) ∧
 ((t0.1 == (1:Int)) = false → (((t0.1 == (2:Int)) = true → (((t0.1 == (2:Int)) = true → R ((some ((83,(⟨(.pair (.int .i64) .unit),(t0.1,())⟩ : CV))))) X) ∧
 ((t0.1 == (2:Int)) = false → (((t0.1 == (5:Int)) = true → (((t0.1 == (5:Int)) = true → R ((some ((98,(⟨(.pair (.int .i64) .unit),(t0.1,())⟩ : CV))))) X) ∧
 ((t0.1 == (5:Int)) = false → R none X))) ∧
 ((t0.1 == (5:Int)) = false → (((t0.1 == (6:Int)) = true → R ((some ((98,(⟨(.pair (.int .i64) .unit),(t0.1,())⟩ : CV))))) X) ∧
 ((t0.1 == (6:Int)) = false → R none X))))))) ∧
 ((t0.1 == (2:Int)) = false → (((t0.1 == (3:Int)) = true → (((t0.1 == (3:Int)) = true → R ((some ((83,(⟨(.pair (.int .i64) .unit),(t0.1,())⟩ : CV))))) X) ∧
 ((t0.1 == (3:Int)) = false → (((t0.1 == (5:Int)) = true → (((t0.1 == (5:Int)) = true → R ((some ((98,(⟨(.pair (.int .i64) .unit),(t0.1,())⟩ : CV))))) X) ∧
 ((t0.1 == (5:Int)) = false → R none X))) ∧
 ((t0.1 == (5:Int)) = false → (((t0.1 == (6:Int)) = true → R ((some ((98,(⟨(.pair (.int .i64) .unit),(t0.1,())⟩ : CV))))) X) ∧
 ((t0.1 == (6:Int)) = false → R none X))))))) ∧
 ((t0.1 == (3:Int)) = false → (((t0.1 == (4:Int)) = true → R ((some ((83,(⟨(.pair (.int .i64) .unit),(t0.1,())⟩ : CV))))) X) ∧
 ((t0.1 == (4:Int)) = false → (((t0.1 == (5:Int)) = true → (((t0.1 == (5:Int)) = true → R ((some ((98,(⟨(.pair (.int .i64) .unit),(t0.1,())⟩ : CV))))) X) ∧
 ((t0.1 == (5:Int)) = false → R none X))) ∧
 ((t0.1 == (5:Int)) = false → (((t0.1 == (6:Int)) = true → R ((some ((98,(⟨(.pair (.int .i64) .unit),(t0.1,())⟩ : CV))))) X) ∧
 ((t0.1 == (6:Int)) = false → R none X))))))))))))) :
  fnK X28.tt (callN Tryd.prog X28 0) (X28.md 28) (X28.mk1 28) Tryd.f28 [(.v (.agg [(.int .i64 t0.1),(.list .bool t0.2 .no)]))] ⟨[],[some (.heap X)],⟨0,[]⟩⟩ (xfin [.ifc] R) := Eq.mp (by kernel_rfl) h
end Go.Proofs.YtdcljlafookliaaDoor.AB

set_option maxRecDepth 100000
set_option maxHeartbeats 2000000
namespace Go.Proofs.YtdcljlafookliaaDoor.AB
open Go
noncomputable def X10 : Cx := ⟨tt,[],[(28,[.ifc])],[(10,[(1,1,.rd)])],[],[]⟩
theorem FN10 : fnsB Tryd.prog X10.fns := (show True from trivial)
theorem E10 (X : XH) (h0 : Nat) (t1 : (Int × (List Bool))) {R : (Int × Int) → XH → Prop} (h : (∃ (p1 : (Option (Nat × CV))),RC Tryd.prog 28 [.ifc] [(.v (.agg [(.int .i64 t1.1),(.list .bool t1.2 .no)]))] X p1 ∧ (((Option.isNone p1) = true → (((Option.isNone p1) = true → R ((0:Int),(1:Int)) X) ∧
 ((Option.isNone p1) = false → (((decide (((t1.2).length : Int) > (200:Int))) = true → (((decide (((t1.2).length : Int) > (200:Int))) = true → R ((0:Int),(3:Int)) X) ∧
 ((decide (((t1.2).length : Int) > (200:Int))) = false → (∃ (a2 : ((Option Nat) × ((Option Nat) × Int))),XH.el X yZ1 h0 0 = some a2 ∧ (∃ (a3 : ((Option Nat) × ((Option Nat) × Int))),XH.el X yZ1 h0 0 = some a3 ∧ (∀ (X4 : XH),X4 = (XH.setEl X yZ1 h0 0 ((a3.1,(a3.2.1,(IntKind.wrap .i64 (a2.2.2 + (1:Int))))))) → (∃ (a5 : ((Option Nat) × ((Option Nat) × Int))),XH.el X4 yZ1 h0 0 = some a5 ∧ (∃ (a6 : ((Option Nat) × ((Option Nat) × Int))),XH.el X4 yZ1 h0 0 = some a6 ∧ (∃ (h7 : Nat) (es8 : List (Int × (Option (Nat × CV)))),a5.2.1 = some h7 ∧ XH.mp X4 (.int .i64) .ifc h7 = some es8 ∧ (∀ (X9 : XH),X9 = (XH.set X4 h7 (.map (.int .i64) .ifc (mset (Cd.keq (.int .i64) a6.2.2) a6.2.2 p1 es8))) → (∃ (a10 : ((Option Nat) × ((Option Nat) × Int))),XH.el X9 yZ1 h0 0 = some a10 ∧ R (a10.2.2,(0:Int)) X9))))))))))) ∧
 ((decide (((t1.2).length : Int) > (200:Int))) = false → (∃ (a11 : ((Option Nat) × ((Option Nat) × Int))),XH.el X yZ1 h0 0 = some a11 ∧ (((decide (a11.2.2 ≥ (100000:Int))) = true → R ((0:Int),(3:Int)) X) ∧
 ((decide (a11.2.2 ≥ (100000:Int))) = false → (∃ (a12 : ((Option Nat) × ((Option Nat) × Int))),XH.el X yZ1 h0 0 = some a12 ∧ (∃ (a13 : ((Option Nat) × ((Option Nat) × Int))),XH.el X yZ1 h0 0 = some a13 ∧ (∀ (X14 : XH),X14 = (XH.setEl X yZ1 h0 0 ((a13.1,(a13.2.1,(IntKind.wrap .i64 (a12.2.2 + (1:Int))))))) → (∃ (a15 : ((Option Nat) × ((Option Nat) × Int))),XH.el X14 yZ1 h0 0 = some a15 ∧ (∃ (a16 : ((Option Nat) × ((Option Nat) × Int))),XH.el X14 yZ1 h0 0 = some a16 ∧ (∃ (h17 : Nat) (es18 : List (Int × (Option (Nat × CV)))),a15.2.1 = some h17 ∧ XH.mp X14 (.int .i64) .ifc h17 = some es18 ∧ (∀ (X19 : XH),X19 = (XH.set X14 h17 (.map (.int .i64) .ifc (mset (Cd.keq (.int .i64) a16.2.2) a16.2.2 p1 es18))) → (∃ (a20 : ((Option Nat) × ((Option Nat) × Int))),XH.el X19 yZ1 h0 0 = some a20 ∧ R (a20.2.2,(0:Int)) X19)))))))))))))))) ∧
 ((Option.isNone p1) = false → (((t1.1 != (1:Int)) = true → (((decide (((t1.2).length : Int) > (0:Int))) = true → R ((0:Int),(1:Int)) X) ∧
 ((decide (((t1.2).length : Int) > (0:Int))) = false → (((decide (((t1.2).length : Int) > (200:Int))) = true → (((decide (((t1.2).length : Int) > (200:Int))) = true → R ((0:Int),(3:Int)) X) ∧
 ((decide (((t1.2).length : Int) > (200:Int))) = false → (∃ (a21 : ((Option Nat) × ((Option Nat) × Int))),XH.el X yZ1 h0 0 = some a21 ∧ (∃ (a22 : ((Option Nat) × ((Option Nat) × Int))),XH.el X yZ1 h0 0 = some a22 ∧ (∀ (X23 : XH),X23 = (XH.setEl X yZ1 h0 0 ((a22.1,(a22.2.1,(IntKind.wrap .i64 (a21.2.2 + (1:Int))))))) → (∃ (a24 : ((Option Nat) × ((Option Nat) × Int))),XH.el X23 yZ1 h0 0 = some a24 ∧ (∃ (a25 : ((Option Nat) × ((Option Nat) × Int))),XH.el X23 yZ1 h0 0 = some a25 ∧ (∃ (h26 : Nat) (es27 : List (Int × (Option (Nat × CV)))),a24.2.1 = some h26 ∧ XH.mp X23 (.int .i64) .ifc h26 = some es27 ∧ (∀ (X28 : XH),X28 = (XH.set X23 h26 (.map (.int .i64) .ifc (mset (Cd.keq (.int .i64) a25.2.2) a25.2.2 p1 es27))) → (∃ (a29 : ((Option Nat) × ((Option Nat) × Int))),XH.el X28 yZ1 h0 0 = some a29 ∧ R (a29.2.2,(0:Int)) X28))))))))))) ∧
 ((decide (((t1.2).length : Int) > (200:Int))) = false → (∃ (a30 : ((Option Nat) × ((Option Nat) × Int))),XH.el X yZ1 h0 0 = some a30 ∧ (((decide (a30.2.2 ≥ (100000:Int))) = true → R ((0:Int),(3:Int)) X) ∧
 ((decide (a30.2.2 ≥ (100000:Int))) = false → (∃ (a31 : ((Option Nat) × ((Option Nat) × Int))),XH.el X yZ1 h0 0 = some a31 ∧ (∃ (a32 : ((Option Nat) × ((Option Nat) × Int))),XH.el X yZ1 h0 0 = some a32 ∧ (∀ (X33 : XH),X33 = (XH.setEl X yZ1 h0 0 ((a32.1,(a32.2.1,(IntKind.wrap .i64 (a31.2.2 + (1:Int))))))) → (∃ (a34 : ((Option Nat) × ((Option Nat) × Int))),XH.el X33 yZ1 h0 0 = some a34 ∧ (∃ (a35 : ((Option Nat) × ((Option Nat) × Int))),XH.el X33 yZ1 h0 0 = some a35 ∧ (∃ (h36 : Nat) (es37 : List (Int × (Option (Nat × CV)))),a34.2.1 = some h36 ∧ XH.mp X33 (.int .i64) .ifc h36 = some es37 ∧ (∀ (X38 : XH),X38 = (XH.set X33 h36 (.map (.int .i64) .ifc (mset (Cd.keq (.int .i64) a35.2.2) a35.2.2 p1 es37))) → (∃ (a39 : ((Option Nat) × ((Option Nat) × Int))),XH.el X38 yZ1 h0 0 = some a39 ∧ R (a39.2.2,(0:Int)) X38)))))))))))))))) ∧ ((t1.1 != (1:Int)) = false → (((decide (((t1.2).length : Int) > (200:Int))) = true → (((decide (((t1.2).length : Int) > (200:Int))) = true → R ((0:Int),(3:Int)) X) ∧
 ((decide (((t1.2).length : Int) > (200:Int))) = false → (∃ (a40 : ((Option Nat) × ((Option Nat) × Int))),XH.el X yZ1 h0 0 = some a40 ∧ (∃ (a41 : ((Option Nat) × ((Option Nat) × Int))),XH.el X yZ1 h0 0 = some a41 ∧ (∀ (X42 : XH),X42 = (XH.setEl X yZ1 h0 0 ((a41.1,(a41.2.1,(IntKind.wrap .i64 (a40.2.2 + (1:Int))))))) → (∃ (a43 : ((Option Nat) × ((Option Nat) × Int))),XH.el X42 yZ1 h0 0 = some a43 ∧ (∃ (a44 : ((Option Nat) × ((Option Nat) × Int))),XH.el X42 yZ1 h0 0 = some a44 ∧ (∃ (h45 : Nat) (es46 : List (Int × (Option (Nat × CV)))),a43.2.1 = some h45 ∧ XH.mp X42 (.int .i64) .ifc h45 = some es46 ∧ (∀ (X47 : XH),X47 = (XH.set X42 h45 (.map (.int .i64) .ifc (mset (Cd.keq (.int .i64) a44.2.2) a44.2.2 p1 es46))) → (∃ (a48 : ((Option Nat) × ((Option Nat) × Int))),XH.el X47 yZ1 h0 0 = some a48 ∧ R (a48.2.2,(0:Int)) X47))))))))))) ∧
 ((decide (((t1.2).length : Int) > (200:Int))) = false → (∃ (a49 : ((Option Nat) × ((Option Nat) × Int))),XH.el X yZ1 h0 0 = some a49 ∧ (((decide (a49.2.2 ≥ (100000:Int))) = true → R ((0:Int),(3:Int)) X) ∧
 ((decide (a49.2.2 ≥ (100000:Int))) = false → (∃ (a50 : ((Option Nat) × ((Option Nat) × Int))),XH.el X yZ1 h0 0 = some a50 ∧ (∃ (a51 : ((Option Nat) × ((Option Nat) × Int))),XH.el X yZ1 h0 0 = some a51 ∧ (∀ (X52 : XH),X52 = (XH.setEl X yZ1 h0 0 ((a51.1,(a51.2.1,(IntKind.wrap .i64 (a50.2.2 + (1:Int))))))) → (∃ (a53 : ((Option Nat) × ((Option Nat) × Int))),XH.el X52 yZ1 h0 0 = some a53 ∧ (∃ (a54 : ((Option Nat) × ((Option Nat) × Int))),XH.el X52 yZ1 h0 0 = some a54 ∧ (∃ (h55 : Nat) (es56 : List (Int × (Option (Nat × CV)))),a53.2.1 = some h55 ∧ XH.mp X52 (.int .i64) .ifc h55 = some es56 ∧ (∀ (X57 : XH),X57 = (XH.set X52 h55 (.map (.int .i64) .ifc (mset (Cd.keq (.int .i64) a54.2.2) a54.2.2 p1 es56))) → (∃ (a58 : ((Option Nat) × ((Option Nat) × Int))),XH.el X57 yZ1 h0 0 = some a58 ∧ R (a58.2.2,(0:Int)) X57))))))))))))))))))) :
  fnK X10.tt (callN Tryd.prog X10 0) (X10.md 10) (X10.mk1 10) Tryd.f10 [(.ref (some h0) yZ1 0 []),(.v (.agg [(.int .i64 t1.1),(.list .bool t1.2 .no)]))] ⟨[],[some (.heap X)],⟨0,[]⟩⟩ (xfin [(.pure (.int .i64)),(.pure (.int .i64))] R) := Eq.mp (by kernel_rfl) h
end Go.Proofs.YtdcljlafookliaaDoor.AB

set_option maxRecDepth 100000
set_option maxHeartbeats 2000000
namespace Go.Proofs.YtdcljlafookliaaDoor.AB
open Go
noncomputable def X8 : Cx := ⟨tt,[],[(27,[(.ref yZ0),(.pure (.int .i64))])],[(8,[(1,1,.xc),(4,1,.x (.mp (.int .i64) .ifc)),(4,2,.x yZ1),(4,3,.x yZ1)])],[],[]⟩
theorem FN8 : fnsB Tryd.prog X8.fns := (show True from trivial)
theorem E8 (X : XH) (words0 : Int) {R : ((Option Nat) × Int) → XH → Prop} (h : (XC Tryd.prog 27 [(.ref yZ0),(.pure (.int .i64))] [(.v (.int .i64 words0))] X (fun (p1 : (Option Nat) × Int) (X2 : XH) => (((p1.2 != (0:Int)) = true → R (none,p1.2) X2) ∧
 ((p1.2 != (0:Int)) = false → (∀ (X3 : XH),X3 = (XH.add X2 (.map (.int .i64) .ifc [])) → (∀ (X4 : XH),X4 = (XH.add X3 (.arr yZ1 [(p1.1,((some X2.n),(0:Int)))])) → R ((some X3.n),(0:Int)) X4))))))) :
  fnK X8.tt (callN Tryd.prog X8 0) (X8.md 8) (X8.mk1 8) Tryd.f8 [(.v (.int .i64 words0))] ⟨[],[some (.heap X)],⟨0,[]⟩⟩ (xfin [(.ref yZ1),(.pure (.int .i64))] R) := Eq.mp (by kernel_rfl) h
end Go.Proofs.YtdcljlafookliaaDoor.AB

set_option maxRecDepth 100000
set_option maxHeartbeats 2000000
namespace Go.Proofs.YtdcljlafookliaaDoor.AB
open Go
noncomputable def X16 : Cx := ⟨tt,[],[(40,[(.pure (.int .i64))])],[(16,[(1,5,.xc)])],[],[]⟩
theorem FN16 : fnsB Tryd.prog X16.fns := (show True from trivial)
theorem E16 (X : XH) (h0 : Nat) (at1 : Int) {R : (Int) → XH → Prop} (h : (∃ (a1 : ((Option Nat) × ((Option Nat) × Int))),XH.el X yZ1 h0 0 = some a1 ∧ (XC Tryd.prog 40 [(.pure (.int .i64))] [(.ref a1.1 yZ0 0 []),(.v (.int .i64 at1))] X (fun (p2 : Int) (X3 : XH) => R p2 X3)))) :
 fnK X16.tt (callN Tryd.prog X16 0) (X16.md 16) (X16.mk1 16) Tryd.f16 [(.ref (some h0) yZ1 0 []),(.v (.int .i64 at1))] ⟨[],[some (.heap X)],⟨0,[]⟩⟩ (xfin [(.pure (.int .i64))] R) := Eq.mp (by kernel_rfl) h
end Go.Proofs.YtdcljlafookliaaDoor.AB

set_option maxRecDepth 100000
set_option maxHeartbeats 2000000
namespace Go.Proofs.YtdcljlafookliaaDoor.AB
open Go
noncomputable def X22 : Cx := ⟨tt,[],[],[],[],[]⟩
theorem FN22 : fnsB Tryd.prog X22.fns := (show True from trivial)
theorem E22 (X : XH) (h0 : Nat) (id1 : Int) {R : (Int) → XH → Prop} (h : (∃ (a1 : ((Option Nat) × ((Option Nat) × Int))),XH.el X yZ1 h0 0 = some a1 ∧ (∃ (es2 : List (Int × (Option (Nat × CV)))),XH.vmp X (.int .i64) .ifc a1.2.1 = some es2 ∧ (∀ (v3 : (Option (Nat × CV))),mfind (Cd.keq (.int .i64) id1) es2 = some v3 → (((!true) = true → R (24:Int) X) ∧
 ((!true) = false → (∃ (a4 : ((Option Nat) × ((Option Nat) × Int))),XH.el X yZ1 h0 0 = some a4 ∧ (∃ (h5 : Nat) (es6 : List (Int × (Option (Nat × CV)))),a4.2.1 = some h5 ∧ XH.mp X (.int .i64) .ifc h5 = some es6 ∧ (∀ (X7 : XH),X7 = (XH.set X h5 (.map (.int .i64) .ifc (mdel (Cd.keq (.int .i64) id1) es6))) → R (0:Int) X7)))))) ∧ (mfind (Cd.keq (.int .i64) id1) es2 = none → (((!false) = true → R (24:Int) X) ∧
 ((!false) = false → (∃ (a8 : ((Option Nat) × ((Option Nat) × Int))),XH.el X yZ1 h0 0 = some a8 ∧ (∃ (h9 : Nat) (es10 : List (Int × (Option (Nat × CV)))),a8.2.1 = some h9 ∧ XH.mp X (.int .i64) .ifc h9 = some es10 ∧ (∀ (X11 : XH),X11 = (XH.set X h9 (.map (.int .i64) .ifc (mdel (Cd.keq (.int .i64) id1) es10))) → R (0:Int) X11))))))))) :
  fnK X22.tt (callN Tryd.prog X22 0) (X22.md 22) (X22.mk1 22) Tryd.f22 [(.ref (some h0) yZ1 0 []),(.v (.int .i64 id1))] ⟨[],[some (.heap X)],⟨0,[]⟩⟩ (xfin [(.pure (.int .i64))] R) := Eq.mp (by kernel_rfl) h
end Go.Proofs.YtdcljlafookliaaDoor.AB

set_option maxRecDepth 100000
set_option maxHeartbeats 2000000
namespace Go.Proofs.YtdcljlafookliaaDoor.AB
open Go
noncomputable def X18 : Cx := ⟨tt,[],[(19,[(.pure (.int .i64)),(.pure .bool)]),(31,[(.pure (.int .i64))]),(32,[.ifc,(.pure .bool)]),(36,[(.pure (.int .i64)),(.pure .bool),(.pure (.int .i64))])],[(18,[(1,3,.rd),(4,2,.rd),(5,2,.rd),(6,1,.meth "crucible/object.kind" (.int .i64)),(8,7,.xc)])],[],[]⟩
theorem FN18 : fnsB Tryd.prog X18.fns := (show True from trivial)
theorem E18 (X : XH) (h0 : Nat) (at1 : Int) (i2 : Int) (v3 : Int) {R : (Int) → XH → Prop} (h : (∃ (p1 : Int × Bool × Int),RC Tryd.prog 36 [(.pure (.int .i64)),(.pure .bool),(.pure (.int .i64))] [(.ref (some h0) yZ1 0 []),(.v (.int .i64 at1)),(.v (.int .i64 i2))] X p1 ∧ (((p1.2.2 != (0:Int)) = true → R p1.2.2 X) ∧
 ((p1.2.2 != (0:Int)) = false → (∃ (p2 : (Option (Nat × CV)) × Bool),RC Tryd.prog 32 [.ifc,(.pure .bool)] [(.ref (some h0) yZ1 0 []),(.v (.int .i64 at1))] X p2 ∧ (∃ (p3 : Int × Bool),RC Tryd.prog 19 [(.pure (.int .i64)),(.pure .bool)] [(.ref (some h0) yZ1 0 []),(.v (.int .i64 v3))] X p3 ∧ (∃ (p4 : Int),MC Tryd.prog "crucible/object.kind" p2.1 (.int .i64 p4) ∧ (((p4 == (4:Int)) = true → R (18:Int) X) ∧ ((p4 == (4:Int)) = false → ((p1.2.1 = true → (((v3 != (0:Int)) = true → (((!p3.2) = true → R (18:Int) X) ∧
 ((!p3.2) = false → (∃ (a5 : ((Option Nat) × ((Option Nat) × Int))),XH.el X yZ1 h0 0 = some a5 ∧ (XC Tryd.prog 31 [(.pure (.int .i64))] [(.ref a5.1 yZ0 0 []),(.v (.int .i64 at1)),(.v (.int .i64 p1.1)),(.v (.int .i64 v3))] X (fun (p6 : Int) (X7 : XH) => R p6 X7)))))) ∧ ((v3 != (0:Int)) = false → (∃ (a8 : ((Option Nat) × ((Option Nat) × Int))),XH.el X yZ1 h0 0 = some a8 ∧ (XC Tryd.prog 31 [(.pure (.int .i64))] [(.ref a8.1 yZ0 0 []),(.v (.int .i64 at1)),(.v (.int .i64 p1.1)),(.v (.int .i64 v3))] X (fun (p9 : Int) (X10 : XH) => R p9 X10)))))) ∧ (p1.2.1 = false → (∃ (a11 : ((Option Nat) × ((Option Nat) × Int))),XH.el X yZ1 h0 0 = some a11 ∧ (XC Tryd.prog 31 [(.pure (.int .i64))] [(.ref a11.1 yZ0 0 []),(.v (.int .i64 at1)),(.v (.int .i64 p1.1)),(.v (.int .i64 v3))] X (fun (p12 : Int) (X13 : XH) => R p12 X13)))))))))))))) :
  fnK X18.tt (callN Tryd.prog X18 0) (X18.md 18) (X18.mk1 18) Tryd.f18 [(.ref (some h0) yZ1 0 []),(.v (.int .i64 at1)),(.v (.int .i64 i2)),(.v (.int .i64 v3))] ⟨[],[some (.heap X)],⟨0,[]⟩⟩ (xfin [(.pure (.int .i64))] R) := Eq.mp (by kernel_rfl) h
end Go.Proofs.YtdcljlafookliaaDoor.AB

namespace Go.Proofs.YtdcljlafookliaaDoor.AB
open Go

variable {X X' : XH} {h : Nat} {o : OD} {bs : List Bl}

def bodyS (s : Shp) (n : Int) : Int × Int :=
  match s with
  | .row _ => (W64 (2 + n),0)
  | .plain r => if n = 0 then (W64 (1 + if (r.length : Int) > 1 then (r.length : Int) else 1),0) else (0,1)
  | .single _ => if n = 0 then (2,0) else (0,1)

def bodyR (o : OD) (id n : Int) : Int × Int :=
  match tfind o.ts id with
  | none => (0,24)
  | some s => if n < 0 then (0,1) else if n > 1048576 then (0,1) else bodyS s n

theorem bodyR_none {id n : Int} (e : tfind o.ts id = none) : bodyR o id n = (0,24) := by unfold bodyR; rw [e]
theorem bodyR_some {id n : Int} {s : Shp} (e : tfind o.ts id = some s) : bodyR o id n = if n < 0 then (0,1) else if n > 1048576 then (0,1) else bodyS s n := by unfold bodyR; rw [e]

theorem find_some {id : Int} {s : Shp} (e : tfind o.ts id = some s) {v : Option (Nat × CV)} (hv : mfind (Cd.keq (.int .i64) id) (tsE o.ts) = some v) : v = some s.enc := by
  rw [tsE_find,e] at hv; exact (Option.some.inj hv).symm

theorem find_some0 {id : Int} {s : Shp} (e : tfind o.ts id = some s) (hv : mfind (Cd.keq (.int .i64) id) (tsE o.ts) = none) : False := by
  rw [tsE_find,e] at hv; cases hv

theorem find_none {id : Int} (e : tfind o.ts id = none) {v : Option (Nat × CV)} (hv : mfind (Cd.keq (.int .i64) id) (tsE o.ts) = some v) : False := by
  rw [tsE_find,e] at hv; cases hv

theorem c37 (r : RepH X h o) (id n : Int) : RC Tryd.prog 37 [.pure (.int .i64),.pure (.int .i64)] [.ref (some h) cH 0 [],.v (.int .i64 id),.v (.int .i64 n)] X (bodyR o id n) := by
  cases e : tfind o.ts id with
  | none =>
    rw [bodyR_none e]
    exact xcOf (X := X37) rfl FN37 (by kernel_rfl) (by decide) (E37 X h id n ⟨o.val,r.el,_,r.vmp,fun v hv => (find_none e hv).elim,fun hv => ⟨fun _ => ⟨rfl,rfl⟩,fun e => by cases e⟩⟩)
  | some s =>
    rw [bodyR_some e]
    refine xcOf (X := X37) rfl FN37 (by kernel_rfl) (by decide) (E37 X h id n ⟨o.val,r.el,_,r.vmp,fun v hv => ⟨fun e => (by cases e),fun _ => ⟨fun e1 => ?_,fun e1 => ⟨fun e2 => ?_,fun e2 => ?_⟩⟩⟩,fun hv => (find_some0 e hv).elim⟩)
    · rw [if_pos (of_decide_eq_true e1)]; exact ⟨rfl,rfl⟩
    · rw [if_neg (of_decide_eq_false e1),if_pos (of_decide_eq_true e2)]; exact ⟨rfl,rfl⟩
    rw [if_neg (of_decide_eq_false e1),if_neg (of_decide_eq_false e2)]
    refine ⟨o.val,r.el,_,r.vmp,fun v hv => ?_,fun hv => (find_some0 e hv).elim⟩
    have hv := find_some e hv
    subst hv
    refine ⟨fun y hy => ?_,fun n1 => ⟨fun y hy => ?_,fun n2 => ⟨fun e3 => ?_,fun e3 => ?_⟩⟩⟩
    · obtain ⟨k,e3,rfl⟩ := sw_row (s := some s) hy
      cases e3
      exact ⟨_,rfl,rfl,rfl⟩
    · obtain ⟨q,e3,rfl⟩ := sw_plain (s := some s) hy
      cases e3
      refine ⟨_,rfl,fun e4 => ?_,fun e4 => ?_⟩
      · have e4 : n ≠ 0 := by simpa using e4
        exact ⟨(if_neg e4).symm,rfl⟩
      · have e4 : n = 0 := by simpa using e4
        exact ⟨(if_pos e4).symm,rfl⟩
    · obtain ⟨k,rfl⟩ := sw_rest n2 n1
      have e3 : n ≠ 0 := by simpa using e3
      exact ⟨(if_neg e3).symm,rfl⟩
    · obtain ⟨k,rfl⟩ := sw_rest n2 n1
      have e3 : n = 0 := by simpa using e3
      exact ⟨(if_pos e3).symm,rfl⟩

theorem RepH.turn {d' : AD} (r : RepH X h o) (r' : Rep X' o.t d') (m : Mv X (o.d.hs o.t) X' (d'.hs o.t)) : RepH X' h { o with d := d' } ∧ Mv X (o.hs h) X' (OD.hs { o with d := d' } h) := by
  have l1 : h < X.n := r.box.lt
  have l2 : o.hm < X.n := at_lt r.m
  refine ⟨⟨r.box.keep (m.keep _ l1 r.n2),r',(m.keep _ l2 r.n3).trans r.m,r.n1,fun e => ?_,fun e => ?_⟩,⟨m.n,fun k hk hn => m.keep k hk fun e => hn (mem_ohs.2 (.inr (.inr e))),fun k hk => ?_⟩⟩
  · rcases m.own _ e with e | e
    · exact r.n2 e
    · omega
  · rcases m.own _ e with e | e
    · exact r.n3 e
    · have e : X.n ≤ o.hm := e
      omega
  · rcases mem_ohs.1 hk with e | e | e
    · exact .inl (mem_ohs.2 (.inl e))
    · exact .inl (mem_ohs.2 (.inr (.inl e)))
    · rcases m.own _ e with e | e
      · exact .inl (mem_ohs.2 (.inr (.inr e)))
      · exact .inr e

def OFreeQ (X : XH) (h : Nat) (o : OD) (bs : List Bl) (a : Int) (p : Int) (X' : XH) : Prop :=
  ∃ d',RepH X' h { o with d := d' } ∧ Mv X (o.hs h) X' (OD.hs { o with d := d' } h) ∧
    (((∀ q s : Nat,(q,s,true) ∈ walk 1 bs → a ≠ (q : Int)) ∧ p = 24 ∧ d' = o.d) ∨
     ∃ pre s post,bs = pre ++ (s,true) :: post ∧ a = ((1 + sumS pre : Nat) : Int) ∧ p = 0 ∧ d'.W = freeW o.d.W (1 + sumS pre - prevS pre) (prevS pre + s + nextS post) ∧ DOK d' (freeB pre s post))

theorem c16 (r : RepH X h o) (hd : DOK o.d bs) (a : Int) : XC Tryd.prog 16 [.pure (.int .i64)] [.ref (some h) cH 0 [],.v (.int .i64 a)] X (OFreeQ X h o bs a) := by
  refine xcOf (X := X16) rfl FN16 (by kernel_rfl) (by decide) (E16 X h a ⟨o.val,r.el,(c40 r.r hd a).mono fun p X' q => ?_⟩)
  obtain ⟨d',q1,q2,q3⟩ := q
  obtain ⟨k1,k2⟩ := r.turn q1 q2
  exact ⟨d',k1,k2,q3⟩

theorem c21 (r : RepH X h o) (hd : DOK o.d bs) : RC Tryd.prog 21 [.pure (.int .i64),.pure (.int .i64)] [.ref (some h) cH 0 []] X (((usedSum bs : Nat) : Int),(sumS bs : Int) - ((usedSum bs : Nat) : Int)) :=
  xcOf (X := X21) rfl FN21 (by kernel_rfl) (by decide) (E21 X h ⟨o.val,r.el,_,c41 r.r hd,rfl,rfl⟩)

theorem c24 (r : RepH X h o) (hd : DOK o.d bs) : RC Tryd.prog 24 [.pure (.slice (.int .i64))] [.ref (some h) cH 0 []] X (usedAt bs) :=
  xcOf (X := X24) rfl FN24 (by kernel_rfl) (by decide) (E24 X h ⟨o.val,r.el,_,c43 r.r hd,rfl,rfl⟩)

theorem c25 (r : RepH X h o) (i : Int) : RC Tryd.prog 25 [.pure (.int .i64),.pure .bool] [.ref (some h) cH 0 [],.v (.int .i64 i)] X (rawR o.d.W i) :=
  xcOf (X := X25) rfl FN25 (by kernel_rfl) (by decide) (E25 X h i ⟨o.val,r.el,_,c44 r.r i,rfl,rfl⟩)

def fitsR (o : OD) (id n : Int) : Bool := if (bodyR o id n).2 = 0 then (bestR o.d.L (bodyR o id n).1).2 else false

theorem bodyR_bd (o : OD) (id n : Int) : -9223372036854775808 ≤ (bodyR o id n).1 ∧ (bodyR o id n).1 ≤ 9223372036854775807 := by
  have hw : ∀ x : Int,-9223372036854775808 ≤ W64 x ∧ W64 x ≤ 9223372036854775807 := fun x => by
    have e : W64 x = (if 9223372036854775808 ≤ x % 18446744073709551616 then x % 18446744073709551616 - 18446744073709551616 else x % 18446744073709551616) := by
      simp [W64,IntKind.wrap,IntKind.bits,IntKind.signed]
    rw [e]
    split <;> omega
  cases e : tfind o.ts id with
  | none => rw [bodyR_none e]; exact ⟨by decide,by decide⟩
  | some s =>
    rw [bodyR_some e]
    split
    · exact ⟨by decide,by decide⟩
    split
    · exact ⟨by decide,by decide⟩
    cases s <;> unfold bodyS <;> simp only
    · split
      · exact hw _
      · exact ⟨by decide,by decide⟩
    · exact hw _
    · split <;> exact ⟨by decide,by decide⟩

theorem c20 (r : RepH X h o) (hd : DOK o.d bs) (id n : Int) : RC Tryd.prog 20 [.pure .bool] [.ref (some h) cH 0 [],.v (.int .i64 id),.v (.int .i64 n)] X (fitsR o id n) := by
  refine xcOf (X := X20) rfl FN20 (by kernel_rfl) (by decide) (E20 X h id n ⟨_,c37 r id n,fun e => ⟨o.val,r.el,_,c38 r.r hd _ (bodyR_bd o id n),?_⟩,fun e => ?_⟩)
  · have e : (bodyR o id n).2 = 0 := by simpa using e
    exact ⟨(if_pos e).symm,rfl⟩
  · have e : ¬ (bodyR o id n).2 = 0 := by simpa using e
    exact ⟨(if_neg e).symm,rfl⟩


theorem tsE_del (ts : List (Int × Shp)) (k : Int) : mdel (Cd.keq (.int .i64) k) (tsE ts) = tsE (mdel (eqI k) ts) := by
  induction ts with
  | nil => rfl
  | cons e r ih =>
    obtain ⟨a,s⟩ := e
    simp only [tsE,List.map_cons,mdel]
    cases h : eqI k a
    · rw [show Cd.keq (.int .i64) k a = false from h]; simp only [List.map_cons]; rw [← tsE,← tsE,ih]
    · rw [show Cd.keq (.int .i64) k a = true from h]

theorem tsE_set (ts : List (Int × Shp)) (k : Int) (s : Shp) : mset (Cd.keq (.int .i64) k) k (some s.enc) (tsE ts) = tsE (mset (eqI k) k s ts) := by
  induction ts with
  | nil => rfl
  | cons e r ih =>
    obtain ⟨a,s'⟩ := e
    simp only [tsE,List.map_cons,mset]
    cases h : eqI k a
    · rw [show Cd.keq (.int .i64) k a = false from h]; simp only [List.map_cons]; rw [← tsE,← tsE,ih]
    · rw [show Cd.keq (.int .i64) k a = true from h]; rfl

theorem RepH.setTs (r : RepH X h o) (ts' : List (Int × Shp)) : RepH (X.set o.hm (.map (.int .i64) .ifc (tsE ts'))) h { o with ts := ts' } ∧
    Mv X (o.hs h) (X.set o.hm (.map (.int .i64) .ifc (tsE ts'))) (OD.hs { o with ts := ts' } h) := by
  refine ⟨⟨r.box.keep (at_set_ne r.n1),r.r.keep fun k hk => at_set_ne fun e => r.n3 (e ▸ hk),at_set_self r.m,r.n1,r.n2,r.n3⟩,?_⟩
  exact Mv.set (S := o.hs h) (mem_ohs.2 (.inr (.inl rfl)))

theorem RepH.setLast (r : RepH X h o) (n : Int) : RepH (X.set h (.arr cH [OD.val { o with last := n }])) h { o with last := n } ∧
    Mv X (o.hs h) (X.set h (.arr cH [OD.val { o with last := n }])) (OD.hs { o with last := n } h) := by
  refine ⟨⟨r.box.set,r.r.keep fun k hk => at_set_ne fun e => r.n2 (e ▸ hk),(at_set_ne fun e => r.n1 e.symm).trans r.m,r.n1,r.n2,r.n3⟩,?_⟩
  exact Mv.set (S := o.hs h) (mem_ohs.2 (.inl rfl))

def ODropQ (X : XH) (h : Nat) (o : OD) (id : Int) (p : Int) (X' : XH) : Prop :=
  ∃ o',RepH X' h o' ∧ Mv X (o.hs h) X' (o'.hs h) ∧ ((tfind o.ts id = none ∧ p = 24 ∧ o' = o) ∨ ((tfind o.ts id).isSome = true ∧ p = 0 ∧ o' = { o with ts := mdel (eqI id) o.ts }))

theorem c22 (r : RepH X h o) (id : Int) : XC Tryd.prog 22 [.pure (.int .i64)] [.ref (some h) cH 0 [],.v (.int .i64 id)] X (ODropQ X h o id) := by
  cases e : tfind o.ts id with
  | none =>
    exact xcOf (X := X22) rfl FN22 (by kernel_rfl) (by decide) (E22 X h id ⟨o.val,r.el,_,r.vmp,fun v hv => (find_none e hv).elim,fun hv => ⟨fun _ => ⟨o,r,.refl _ _,.inl ⟨e,rfl,rfl⟩⟩,fun e => by cases e⟩⟩)
  | some s =>
    refine xcOf (X := X22) rfl FN22 (by kernel_rfl) (by decide) (E22 X h id ⟨o.val,r.el,_,r.vmp,fun v hv => ⟨fun e => (by cases e),fun _ => ⟨o.val,r.el,o.hm,_,rfl,mp_at.2 r.m,fun X7 e7 => ?_⟩⟩,fun hv => (find_some0 e hv).elim⟩)
    rw [tsE_del] at e7
    subst e7
    obtain ⟨k1,k2⟩ := r.setTs (mdel (eqI id) o.ts)
    exact ⟨_,k1,k2,.inr ⟨by rw [e]; rfl,rfl,rfl⟩⟩

def setWd (o : OD) (W : List Int) : OD := { o with d := { o.d with W := W } }

def putE (o : OD) (bs : List Bl) (a i v : Int) : Int :=
  let s := slotR o bs a i
  if s.2.2 = 0 then (match objR o bs a with
    | none => 24
    | some q => if q.kind = 4 ∨ (s.2.1 = true ∧ v ≠ 0 ∧ (idR o bs v).2 = false) then 18 else (placeR bs a s.1).2) else s.2.2

def putB (o : OD) (bs : List Bl) (a i v : Int) : Bool :=
  let s := slotR o bs a i
  decide (s.2.2 = 0) && (match objR o bs a with
    | none => false
    | some q => !(decide (q.kind = 4 ∨ (s.2.1 = true ∧ v ≠ 0 ∧ (idR o bs v).2 = false))))

def OPutQ (X : XH) (h : Nat) (o : OD) (bs : List Bl) (a i v : Int) (p : Int) (X' : XH) : Prop :=
  p = putE o bs a i v ∧ ∃ o',RepH X' h o' ∧ Mv X (o.hs h) X' (o'.hs h) ∧ DOK o'.d bs ∧ o' = if putB o bs a i v = true then setWd o (writeW o.d.W bs a (slotR o bs a i).1 v) else o

theorem slotR_obj {a i : Int} (e : (slotR o bs a i).2.2 = 0) : ∃ s,objR o bs a = some s := by
  cases ho : objR o bs a with
  | none => rw [slotR_none ho] at e; cases e
  | some s => exact ⟨s,rfl⟩

theorem c18 (r : RepH X h o) (hd : DOK o.d bs) (a i v : Int) : XC Tryd.prog 18 [.pure (.int .i64)] [.ref (some h) cH 0 [],.v (.int .i64 a),.v (.int .i64 i),.v (.int .i64 v)] X (OPutQ X h o bs a i v) := by
  refine xcOf (X := X18) rfl FN18 (by kernel_rfl) (by decide) (E18 X h a i v ⟨_,c36 r hd a i,fun e => ?_,fun e => ⟨_,c32 r hd a,_,c19 r hd v,?_⟩⟩)
  · have e : ¬ (slotR o bs a i).2.2 = 0 := by simpa using e
    refine ⟨(show putE o bs a i v = _ from if_neg e).symm,o,r,.refl _ _,hd,?_⟩
    have : putB o bs a i v = false := by unfold putB; simp only [e,decide_false,Bool.false_and]
    rw [this]; rfl
  have e : (slotR o bs a i).2.2 = 0 := by simpa using e
  obtain ⟨q,hq⟩ := slotR_obj e
  have hE : putE o bs a i v = if q.kind = 4 ∨ ((slotR o bs a i).2.1 = true ∧ v ≠ 0 ∧ (idR o bs v).2 = false) then 18 else (placeR bs a (slotR o bs a i).1).2 := by
    unfold putE; simp only [if_pos e,hq]
  have hB : putB o bs a i v = !(decide (q.kind = 4 ∨ ((slotR o bs a i).2.1 = true ∧ v ≠ 0 ∧ (idR o bs v).2 = false))) := by
    unfold putB; simp only [e,hq,decide_true,Bool.true_and]
  have no : (q.kind = 4 ∨ ((slotR o bs a i).2.1 = true ∧ v ≠ 0 ∧ (idR o bs v).2 = false)) → OPutQ X h o bs a i v 18 X := fun hc => by
    refine ⟨by rw [hE,if_pos hc],o,r,.refl _ _,hd,?_⟩
    rw [hB,decide_eq_true hc]; rfl
  have yes : ¬ (q.kind = 4 ∨ ((slotR o bs a i).2.1 = true ∧ v ≠ 0 ∧ (idR o bs v).2 = false)) →
      ∃ a1 : cH.T,XH.el X yZ1 h 0 = some a1 ∧ XC Tryd.prog 31 [.pure (.int .i64)] [.ref a1.1 cA 0 [],.v (.int .i64 a),.v (.int .i64 (slotR o bs a i).1),.v (.int .i64 v)] X (OPutQ X h o bs a i v) := fun hc => by
    refine ⟨o.val,r.el,(c31 r.r hd a _ v).mono fun p X' hp => ?_⟩
    obtain ⟨rfl,d',q1,q2,q3,q4⟩ := hp
    obtain ⟨k1,k2⟩ := r.turn q1 q2
    refine ⟨by rw [hE,if_neg hc],_,k1,k2,q4,?_⟩
    rw [hB,decide_eq_false hc,q3]; rfl
  rw [hq]
  refine ⟨_,mc_kind q,fun e1 => ?_,fun e1 => ⟨fun e2 => ⟨fun e3 => ⟨fun e4 => ?_,fun e4 => ?_⟩,fun e3 => ?_⟩,fun e2 => ?_⟩⟩
  · exact no (.inl (by simpa using e1))
  · exact no (.inr ⟨e2,by simpa using e3,by simpa using e4⟩)
  · refine yes fun hc => ?_
    rcases hc with hc | ⟨_,_,hc⟩
    · rw [hc] at e1; cases e1
    · rw [hc] at e4; cases e4
  · refine yes fun hc => ?_
    rcases hc with hc | ⟨_,hc,_⟩
    · rw [hc] at e1; cases e1
    · exact hc (by simpa using e3)
  · refine yes fun hc => ?_
    rcases hc with hc | ⟨hc,_,_⟩
    · rw [hc] at e1; cases e1
    · rw [hc] at e2; cases e2

end Go.Proofs.YtdcljlafookliaaDoor.AB

namespace Go.Proofs.YtdcljlafookliaaDoor.AB
open Go

variable {X X' : XH} {h : Nat} {o : OD} {bs : List Bl}

theorem p42 (l : List Bool) (hl : l.length ≤ 140737488355328) : PC Tryd.prog 42 [.list .bool l .no] (.list .bool l .no) := by
 refine pcOf (X := X42) rfl FN42 (by kernel_rfl) (by decide) (E42 l fun b hb => ⟨fun e => ?_,fun e => ⟨trivial,?_,?_⟩⟩)
 ·rw [hb e]; exact ⟨rfl,rfl⟩
 ·simp only [List.length_nil,room]; omega
 ·exact ⟨rfl,rfl⟩

def shapeR (t : Int × List Bool) : Option Shp :=
 if t.1 = 1 then some (.plain t.2) else if t.1 = 2 ∨ t.1 = 3 ∨ t.1 = 4 then some (.row t.1) else if t.1 = 5 ∨ t.1 = 6 then some (.single t.1) else none

theorem c28 (X : XH) (t : Int × List Bool) (hl : t.2.length ≤ 140737488355328) : RC Tryd.prog 28 [.ifc] [.v (.agg [.int .i64 t.1,.list .bool t.2 .no])] X ((shapeR t).map Shp.enc) := by
 have no : ∀ {k : Int} {P : Prop},(t.1 == k) = true → t.1 = k := fun e => by simpa using e
 refine xcOf (X := X28) rfl FN28 (by kernel_rfl) (by decide) (E28 X t ?_)
 have P : t.1 = 1 → shapeR t = some (.plain t.2) := fun e => if_pos e
 have Rw : t.1 = 2 ∨ t.1 = 3 ∨ t.1 = 4 → shapeR t = some (.row t.1) := fun e => by
  unfold shapeR; rw [if_neg (by omega),if_pos e]
 have Sg : t.1 = 5 ∨ t.1 = 6 → shapeR t = some (.single t.1) := fun e => by
  unfold shapeR; rw [if_neg (by omega),if_neg (by omega),if_pos e]
 have Nn : t.1 ≠ 1 → t.1 ≠ 2 → t.1 ≠ 3 → t.1 ≠ 4 → t.1 ≠ 5 → t.1 ≠ 6 → shapeR t = none := fun h1 h2 h3 h4 h5 h6 => by
  unfold shapeR; rw [if_neg h1,if_neg (by omega),if_neg (by omega)]
 refine ⟨fun e1 => ⟨t.2,p42 _ hl,?_⟩,fun e1 => ⟨fun e2 => ⟨fun _ => ?_,fun e => ?_⟩,fun e2 => ⟨fun e3 => ⟨fun _ => ?_,fun e => ?_⟩,fun e3 => ⟨fun e4 => ?_,fun e4 => ⟨fun e5 => ⟨fun _ => ?_,fun e => ?_⟩,fun e5 => ⟨fun e6 => ?_,fun e6 => ?_⟩⟩⟩⟩⟩⟩
 ·rw [P (by simpa using e1)]; exact ⟨rfl,rfl⟩
 ·rw [Rw (.inl (by simpa using e2))]; exact ⟨rfl,rfl⟩
 ·rw [e2] at e; cases e
 ·rw [Rw (.inr (.inl (by simpa using e3)))]; exact ⟨rfl,rfl⟩
 ·rw [e3] at e; cases e
 ·rw [Rw (.inr (.inr (by simpa using e4)))]; exact ⟨rfl,rfl⟩
 ·rw [Sg (.inl (by simpa using e5))]; exact ⟨rfl,rfl⟩
 ·rw [e5] at e; cases e
 ·rw [Sg (.inr (by simpa using e6))]; exact ⟨rfl,rfl⟩
 ·rw [Nn (by simpa using e1) (by simpa using e2) (by simpa using e3) (by simpa using e4) (by simpa using e5) (by simpa using e6)]; exact ⟨rfl,rfl⟩

def regE (o : OD) (t : Int × List Bool) : Int :=
 if shapeR t = none ∨ (t.1 ≠ 1 ∧ t.2 ≠ []) then 1 else if 200 < t.2.length ∨ 100000 ≤ o.last then 3 else 0

def ORegQ (X : XH) (h : Nat) (o : OD) (t : Int × List Bool) (p : Int × Int) (X' : XH) : Prop :=
 ∃ o',RepH X' h o' ∧ Mv X (o.hs h) X' (o'.hs h) ∧
  ((regE o t ≠ 0 ∧ p = (0,regE o t) ∧ o' = o) ∨ ∃ s,regE o t = 0 ∧ shapeR t = some s ∧ p = (o.last + 1,0) ∧ o' = { o with ts := mset (eqI (o.last + 1)) (o.last + 1) s o.ts,last := o.last + 1 })

def regEnd (X : XH) (h : Nat) (p1 : Option (Nat × CV)) (R : Int × Int → XH → Prop) : Prop :=
 ∃ a2 : cH.T,XH.el X yZ1 h 0 = some a2 ∧ (∃ a3 : cH.T,XH.el X yZ1 h 0 = some a3 ∧ (∀ X4 : XH,X4 = XH.setEl X yZ1 h 0 ((a3.1,(a3.2.1,(IntKind.wrap .i64 (a2.2.2 + (1:Int)))))) →
  (∃ a5 : cH.T,XH.el X4 yZ1 h 0 = some a5 ∧ (∃ a6 : cH.T,XH.el X4 yZ1 h 0 = some a6 ∧ (∃ (h7 : Nat) (es8 : List (Int × (Option (Nat × CV)))),a5.2.1 = some h7 ∧ XH.mp X4 (.int .i64) .ifc h7 = some es8 ∧
   (∀ X9 : XH,X9 = XH.set X4 h7 (.map (.int .i64) .ifc (mset (Cd.keq (.int .i64) a6.2.2) a6.2.2 p1 es8)) → (∃ a10 : cH.T,XH.el X9 yZ1 h 0 = some a10 ∧ R (a10.2.2,(0:Int)) X9)))))))

theorem reg_end (r : RepH X h o) (hl : -9223372036854775808 ≤ o.last ∧ o.last < 100000) (s : Shp) {R : Int × Int → XH → Prop}
  (hR : ∀ X',RepH X' h { o with ts := mset (eqI (o.last + 1)) (o.last + 1) s o.ts,last := o.last + 1 } → Mv X (o.hs h) X' (OD.hs { o with ts := mset (eqI (o.last + 1)) (o.last + 1) s o.ts,last := o.last + 1 } h) → R (o.last + 1,0) X') :
  regEnd X h (some s.enc) R := by
 refine ⟨o.val,r.el,o.val,r.el,fun X4 e4 => ?_⟩
 have ew : IntKind.wrap .i64 (o.val.2.2 + 1) = o.last + 1 := wrap64 (by show _ ≤ o.last + 1; omega) (by show o.last + 1 ≤ _; omega)
 rw [ew] at e4
 have e4 := e4.trans (r.box.setEl (b := OD.val { o with last := o.last + 1 }))
 obtain ⟨k1,k2⟩ := r.setLast (o.last + 1)
 rw [← e4] at k1 k2
 refine ⟨_,k1.el,_,k1.el,o.hm,_,rfl,mp_at.2 k1.m,fun X9 e9 => ?_⟩
 have e9 : X9 = XH.set X4 o.hm (.map (.int .i64) .ifc (mset (Cd.keq (.int .i64) (o.last + 1)) (o.last + 1) (some s.enc) (tsE o.ts))) := e9
 rw [tsE_set] at e9
 obtain ⟨q1,q2⟩ := k1.setTs (mset (eqI (o.last + 1)) (o.last + 1) s o.ts)
 subst e9
 exact ⟨_,q1.el,hR _ q1 (k2.trans q2)⟩

theorem c10 (r : RepH X h o) (t : Int × List Bool) (ht : t.2.length ≤ 140737488355328) (hl : -9223372036854775808 ≤ o.last) : XC Tryd.prog 10 [.pure (.int .i64),.pure (.int .i64)] [.ref (some h) cH 0 [],.v (.agg [.int .i64 t.1,.list .bool t.2 .no])] X (ORegQ X h o t) := by
 have no : ∀ k,k ≠ 0 → regE o t = k → ORegQ X h o t (0,k) X := fun k hk e => ⟨o,r,.refl _ _,.inl ⟨by rw [e]; exact hk,by rw [e],rfl⟩⟩
 have big : regE o t = 0 ∨ regE o t = 3 ∨ regE o t = 1 := by unfold regE; split; exact .inr (.inr rfl); split; exact .inr (.inl rfl); exact .inl rfl
 have nil0 : ¬ ((t.2.length : Int) > 0) ↔ t.2 = [] := by
  rw [← List.length_eq_zero_iff]; omega
 refine xcOf (X := X10) rfl FN10 (by kernel_rfl) (by decide) (E10 X h t ⟨_,c28 X t ht,?_⟩)
 cases hs : shapeR t with
 | none =>
  have e1 : regE o t = 1 := if_pos (.inl hs)
  exact ⟨fun _ => ⟨fun _ => no 1 (by decide) e1,fun e => by cases e⟩,fun e => by cases e⟩
 | some s =>
  have tail : ¬ (t.1 ≠ 1 ∧ t.2 ≠ []) → (decide ((t.2.length : Int) > 200) = true → (decide ((t.2.length : Int) > 200) = true → ORegQ X h o t (0,3) X) ∧ (decide ((t.2.length : Int) > 200) = false → regEnd X h (some s.enc) (ORegQ X h o t))) ∧
    (decide ((t.2.length : Int) > 200) = false → ∃ a11 : cH.T,XH.el X yZ1 h 0 = some a11 ∧ ((decide (a11.2.2 ≥ (100000:Int)) = true → ORegQ X h o t (0,3) X) ∧ (decide (a11.2.2 ≥ (100000:Int)) = false → regEnd X h (some s.enc) (ORegQ X h o t)))) := fun hc => by
   have hr : regE o t = if 200 < t.2.length ∨ 100000 ≤ o.last then 3 else 0 := by
    unfold regE; rw [if_neg]
    rintro (e | e)
    ·rw [hs] at e; cases e
    ·exact hc e
   refine ⟨fun e => ⟨fun _ => no 3 (by decide) ?_,fun e' => ?_⟩,fun e => ⟨o.val,r.el,fun e' => no 3 (by decide) ?_,fun e' => reg_end r ⟨hl,?_⟩ s fun X' q1 q2 => ⟨_,q1,q2,.inr ⟨s,?_,hs,rfl,rfl⟩⟩⟩⟩
   ·have := of_decide_eq_true e
    rw [hr,if_pos (.inl (by omega))]
   ·rw [e] at e'; cases e'
   ·have e' : o.last ≥ 100000 := of_decide_eq_true e'
    rw [hr,if_pos (.inr e')]
   ·have e' : ¬ o.last ≥ 100000 := of_decide_eq_false e'
    omega
   ·have e' : ¬ o.last ≥ 100000 := of_decide_eq_false e'
    have e := of_decide_eq_false e
    rw [hr,if_neg (by omega)]
  refine ⟨fun e => (by cases e),fun _ => ⟨fun e1 => ⟨fun e2 => ?_,fun e2 => ?_⟩,fun e1 => ?_⟩⟩
  ·refine no 1 (by decide) (if_pos (.inr ⟨by simpa using e1,fun e => ?_⟩))
   have := of_decide_eq_true e2
   rw [e] at this
   simp at this
  ·exact tail fun hc => hc.2 (nil0.1 (of_decide_eq_false e2))
  ·exact tail fun hc => hc.1 (by simpa using e1)

def ONewQ (X : XH) (n : Int) (p : Option Nat × Int) (X' : XH) : Prop :=
 (¬ (16 ≤ n ∧ n ≤ 1048576) ∧ p = (none,1) ∧ X' = X) ∨
 ∃ (m h : Nat) (o : OD),n = m ∧ 16 ≤ m ∧ m ≤ 1048576 ∧ p = (some h,0) ∧ RepH X' h o ∧ Mv X [] X' (o.hs h) ∧ DOK o.d [(m - 1,false)] ∧ o.d.W = newW m ∧ o.ts = [] ∧ o.last = 0

theorem c8 (X : XH) (n : Int) (hn : -9223372036854775808 ≤ n ∧ n ≤ 9223372036854775807) : XC Tryd.prog 8 [.ref cH,.pure (.int .i64)] [.v (.int .i64 n)] X (ONewQ X n) := by
 refine xcOf (X := X8) rfl FN8 (by kernel_rfl) (by decide) (E8 X n ((c27 n hn).mono fun p X2 hp => ?_))
 rcases hp with ⟨h1,rfl,rfl⟩ | ⟨m,t,d,rfl,h1,h2,rfl,h4,h5,h6,h7⟩
 ·exact ⟨fun _ => .inl ⟨h1,rfl,rfl⟩,fun e => by cases e⟩
 ·refine ⟨fun e => (by cases e),fun _ X3 e3 X4 e4 => .inr ⟨m,X3.n,⟨t,d,X2.n,[],0⟩,rfl,h1,h2,rfl,?_,?_,h6,h7,rfl,rfl⟩⟩
  ·have n3 : X3.n = X2.n + 1 := by rw [e3]; rfl
   have hlt := h4.lt
   have a3 : ∀ k,k < X2.n → X3.at k = X2.at k := fun k hk => by rw [e3]; exact at_add_old hk
   have a4 : ∀ k,k < X3.n → X4.at k = X3.at k := fun k hk => by rw [e4]; exact at_add_old hk
   refine ⟨?_,h4.keep fun k hk => ?_,?_,?_,fun e => ?_,fun e => ?_⟩
   ·show X4.at X3.n = _
    rw [e4]; exact at_add_new _ _
   ·have := hlt k hk
    rw [a4 k (by omega),a3 k this]
   ·show X4.at X2.n = _
    rw [a4 _ (by omega),e3]; exact at_add_new _ _
   ·show X3.n ≠ X2.n
    omega
   ·have := hlt _ e
    omega
   ·have := hlt _ e
    have this : X2.n < X2.n := this
    omega
  ·subst e3 e4
   have m1 := Mv.add X2 (.map (.int .i64) .ifc []) (d.hs t)
   have m2 := Mv.add (X2.add (.map (.int .i64) .ifc [])) (.arr yZ1 [(some t,some X2.n,(0:Int))]) (X2.n :: d.hs t)
   exact (h5.trans (m1.trans m2))

end Go.Proofs.YtdcljlafookliaaDoor.AB

namespace Go.Proofs.YtdcljlafookliaaDoor.AB
open Go

variable {bs bs' : List Bl}

theorem walk_disj {p : Nat} (hz : sz2 bs) {q q' s s' : Nat} {u u' : Bool} (h1 : (q,s,u) ∈ walk p bs) (h2 : (q',s',u') ∈ walk p bs) (hne : q ≠ q') : q + s ≤ q' ∨ q' + s' ≤ q := by
 obtain ⟨pre,post,rfl,rfl⟩ := walk_split h1
 obtain ⟨z1,z2⟩ := sz2_app.1 hz
 obtain ⟨z2,z3⟩ := sz2_cons.1 z2
 rcases walk_three.1 h2 with h2 | h2 | h2
 ·have := walk_bd z1 h2; omega
 ·cases h2; exact absurd rfl hne
 ·have := walk_bd z3 h2
  simp only at this
  omega

def bodyW (W : List Int) (p s : Nat) : List Int := (W.drop (p + 1)).take (s - 1)

theorem bodyW_len {W : List Int} {p s : Nat} (h : p + s ≤ W.length) (h2 : 1 ≤ s) : (bodyW W p s).length = s - 1 := by
 unfold bodyW; rw [List.length_take,List.length_drop]; omega

theorem bodyW_get {W : List Int} {p s i : Nat} (h : i < s - 1) : (bodyW W p s)[i]? = W[p + 1 + i]? := by
 unfold bodyW; rw [List.getElem?_take,if_pos h,List.getElem?_drop]

theorem bodyW_ext {W W' : List Int} {p s : Nat} (h : ∀ i,p < i → i < p + s → W'[i]? = W[i]?) : bodyW W' p s = bodyW W p s := by
 refine List.ext_getElem? fun i => ?_
 by_cases hi : i < s - 1
 ·rw [bodyW_get hi,bodyW_get hi,h _ (by omega) (by omega)]
 ·unfold bodyW
  rw [List.getElem?_take,List.getElem?_take,if_neg hi,if_neg hi]

theorem alloc_W_same {W : List Int} {pre post : List Bl} {n s : Nat} (h : WOK W bs) (hb : BestAt bs n pre s post) {p s' : Nat} (hm : (p,s',true) ∈ walk 1 bs) : bodyW (allocW W (1 + sumS pre) n s) p s' = bodyW W p s' := by
 have hin : (1 + sumS pre,s,false) ∈ walk 1 bs := by rw [hb.e]; exact walk_three.2 (.inr (.inl rfl))
 obtain ⟨b1,b2,b3⟩ := h.bd hin
 have hle := hb.le
 have hS : allocS n s ≤ s ∧ 1 ≤ allocS n s := by unfold allocS; split <;> omega
 have hne : p ≠ 1 + sumS pre := by
  rintro rfl
  exact absurd (walk_inj h.sz hm hin).2 (by simp)
 have hd := walk_disj h.sz hm hin hne
 refine bodyW_ext fun i h1 h2 => ?_
 rw [allocW_get b3 hle b2,if_neg (by omega),if_neg (by omega),if_neg (by omega)]

theorem alloc_W_new {W : List Int} {pre post : List Bl} {n s : Nat} (h : WOK W bs) (hb : BestAt bs n pre s post) : bodyW (allocW W (1 + sumS pre) n s) (1 + sumS pre) (allocS n s) = List.replicate (allocS n s - 1) 0 := by
 have hin : (1 + sumS pre,s,false) ∈ walk 1 bs := by rw [hb.e]; exact walk_three.2 (.inr (.inl rfl))
 obtain ⟨b1,b2,b3⟩ := h.bd hin
 have hle := hb.le
 refine List.ext_getElem? fun i => ?_
 by_cases hi : i < allocS n s - 1
 ·rw [bodyW_get hi,allocW_get b3 hle b2,if_neg (by omega),if_pos (by omega),List.getElem?_replicate,if_pos hi]
 ·unfold bodyW
  rw [List.getElem?_take,if_neg hi,List.getElem?_replicate,if_neg hi]

theorem free_W_same {W : List Int} {pre post : List Bl} {s : Nat} (h : WOK W (pre ++ (s,true) :: post)) {p s' : Nat} (hm : (p,s',true) ∈ walk 1 (pre ++ (s,true) :: post)) (hne : p ≠ 1 + sumS pre) :
  bodyW (freeW W (1 + sumS pre - prevS pre) (prevS pre + s + nextS post)) p s' = bodyW W p s' := by
 have hin : (1 + sumS pre,s,true) ∈ walk 1 (pre ++ (s,true) :: post) := walk_three.2 (.inr (.inl rfl))
 obtain ⟨b1,b2,b3⟩ := h.bd hin
 have hl := restL_sum pre
 have hr := restR_sum post
 have hlen0 := h.len
 simp only [sumS_app,sumS] at hlen0
 have hf := h.free
 have hm2 := (used_free h.sz p s').2 ⟨hm,hne⟩
 have hin2 : (1 + sumS (restL pre),prevS pre + s + nextS post,false) ∈ walk 1 (freeB pre s post) := walk_three.2 (.inr (.inl rfl))
 have hne2 : p ≠ 1 + sumS (restL pre) := by
  rintro rfl
  exact absurd (walk_inj hf.sz hm2 hin2).2 (by simp)
 have hd := walk_disj hf.sz hm2 hin2 hne2
 refine bodyW_ext fun i h1 h2 => ?_
 rw [freeW_get (by omega) (by omega),if_neg (by omega),if_neg (by omega)]

def ob (W : List Int) (bs : List Bl) (a : Int) : Option (List Int) := (sizeAt bs a).map fun s => bodyW W a.toNat s

theorem ob_some {W : List Int} (h : WOK W bs) {a : Int} {b : List Int} (e : ob W bs a = some b) : ∃ p s : Nat,a = (p : Int) ∧ (p,s,true) ∈ walk 1 bs ∧ b = bodyW W p s ∧ b.length = s - 1 ∧ 1 ≤ p ∧ 2 ≤ s ∧ p + s ≤ W.length := by
 unfold ob at e
 cases hs : sizeAt bs a with
 | none => rw [hs] at e; cases e
 | some s =>
  rw [hs] at e
  obtain ⟨p,rfl,hm,h1,h2,h3⟩ := sizeAt_bd h hs
  cases e
  rw [Int.toNat_natCast]
  exact ⟨p,s,rfl,hm,rfl,bodyW_len h3 (by omega),h1,h2,h3⟩

theorem ob_of {W : List Int} (h : WOK W bs) {p s : Nat} (hm : (p,s,true) ∈ walk 1 bs) : ob W bs (p : Int) = some (bodyW W p s) := by
 unfold ob
 rw [(sizeAt_some h.sz).2 ⟨p,rfl,hm⟩]
 rfl

theorem ob_none {W : List Int} (h : WOK W bs) {a : Int} : ob W bs a = none ↔ ∀ p s : Nat,(p,s,true) ∈ walk 1 bs → a ≠ (p : Int) := by
 rw [← sizeAt_none h.sz]
 unfold ob
 cases sizeAt bs a <;> simp

theorem placeR_of {W : List Int} (h : WOK W bs) {p s : Nat} (hm : (p,s,true) ∈ walk 1 bs) (i : Int) : placeR bs (p : Int) i = if i < 0 then (0,1) else if i ≥ (s : Int) - 1 then (0,1) else ((p : Int) + 1 + i,0) := by
 unfold placeR
 rw [(sizeAt_some h.sz).2 ⟨p,rfl,hm⟩]

theorem readR_some {W : List Int} (h : WOK W bs) {a : Int} {b : List Int} (e : ob W bs a = some b) (i : Int) : readR W bs a i = if 0 ≤ i ∧ i < (b.length : Int) then (b.getD i.toNat 0,0) else (0,1) := by
 obtain ⟨p,s,rfl,hm,rfl,hl,h1,h2,h3⟩ := ob_some h e
 have hz : W.getD 0 0 = 0 := by simp [List.getD,h.z]
 unfold readR
 rw [placeR_of h hm,hl]
 by_cases c1 : i < 0
 ·rw [if_pos c1,if_neg (by omega)]; exact Prod.ext hz rfl
 ·rw [if_neg c1]
  by_cases c2 : i ≥ (s : Int) - 1
  ·rw [if_pos c2,if_neg (by omega)]; exact Prod.ext hz rfl
  ·rw [if_neg c2,if_pos (by omega)]
   obtain ⟨j,rfl⟩ : ∃ j : Nat,i = j := ⟨i.toNat,by omega⟩
   have : (bodyW W p s).getD j 0 = W.getD (p + 1 + j) 0 := by
    simp only [List.getD]; rw [bodyW_get (by omega)]
   rw [Int.toNat_natCast,this]
   have e2 : ((p : Int) + 1 + (j : Int)).toNat = p + 1 + j := by omega
   rw [e2]

theorem readR_none {W : List Int} (h : WOK W bs) {a : Int} (e : ob W bs a = none) (i : Int) : readR W bs a i = (0,24) := by
 have hz : W.getD 0 0 = 0 := by simp [List.getD,h.z]
 have : sizeAt bs a = none := by
  unfold ob at e
  cases hs : sizeAt bs a with
  | none => rfl
  | some s => rw [hs] at e; cases e
 unfold readR placeR
 rw [this]
 exact Prod.ext hz rfl

theorem ob_ext {W W' : List Int} {bs bs' : List Bl} (h : WOK W bs) (h' : WOK W' bs') {a : Int} (e1 : ∀ p s : Nat,a = (p : Int) → ((p,s,true) ∈ walk 1 bs' ↔ (p,s,true) ∈ walk 1 bs))
  (e2 : ∀ p s : Nat,a = (p : Int) → (p,s,true) ∈ walk 1 bs → bodyW W' p s = bodyW W p s) : ob W' bs' a = ob W bs a := by
 cases hb : ob W bs a with
 | none =>
  refine (ob_none h').2 fun p s hm e => ?_
  exact (ob_none h).1 hb p s ((e1 p s e).1 hm) e
 | some b =>
  obtain ⟨p,s,rfl,hm,rfl,_⟩ := ob_some h hb
  rw [ob_of h' ((e1 p s rfl).2 hm),e2 p s rfl hm]

theorem ob_alloc {W : List Int} {pre post : List Bl} {n s : Nat} (h : WOK W bs) (hb : BestAt bs n pre s post) (hn : 1 ≤ n) (a : Int) :
  ob (allocW W (1 + sumS pre) n s) (allocB pre n s post) a = if a = ((1 + sumS pre : Nat) : Int) then some (List.replicate (allocS n s - 1) 0) else ob W bs a := by
 have h' := (h.alloc hb hn).1
 split
 ·rename_i e
  subst e
  rw [ob_of h' ((used_alloc hb _ _).2 (.inr ⟨rfl,rfl⟩)),alloc_W_new h hb]
 ·rename_i e
  refine ob_ext h h' (fun p s' ep => ?_) (fun p s' ep hm => alloc_W_same h hb hm)
  rw [used_alloc hb]
  constructor
  ·rintro (q | ⟨q,_⟩)
   ·exact q
   ·subst q; exact absurd ep e
  ·exact .inl

theorem ob_free {W : List Int} {pre post : List Bl} {s : Nat} (h : WOK W (pre ++ (s,true) :: post)) (a : Int) :
  ob (freeW W (1 + sumS pre - prevS pre) (prevS pre + s + nextS post)) (freeB pre s post) a = if a = ((1 + sumS pre : Nat) : Int) then none else ob W (pre ++ (s,true) :: post) a := by
 have h' := h.free
 split
 ·rename_i e
  subst e
  refine (ob_none h').2 fun p s' hm e => ?_
  have := ((used_free h.sz p s').1 hm).2
  omega
 ·rename_i e
  refine ob_ext h h' (fun p s' ep => ?_) (fun p s' ep hm => free_W_same h hm fun q => e (by rw [ep,q]))
  rw [used_free h.sz]
  exact ⟨fun q => q.1,fun q => ⟨q,fun r => e (by rw [ep,r])⟩⟩

theorem ob_set {W : List Int} (h : WOK W bs) {p s k : Nat} (hm : (p,s,true) ∈ walk 1 bs) (hk : k + 1 < s) (v : Int) (h' : WOK (W.set (p + 1 + k) v) bs) (a : Int) :
  ob (W.set (p + 1 + k) v) bs a = if a = (p : Int) then some ((bodyW W p s).set k v) else ob W bs a := by
 obtain ⟨b1,b2,b3⟩ := h.bd hm
 split
 ·rename_i e
  subst e
  rw [ob_of h' hm]
  refine congrArg some (List.ext_getElem? fun i => ?_)
  by_cases hi : i < s - 1
  ·rw [bodyW_get hi,List.getElem?_set,List.getElem?_set,bodyW_len b3 (by omega),bodyW_get hi]
   by_cases e : k = i
   ·subst e; rw [if_pos rfl,if_pos rfl,if_pos (by omega),if_pos (by omega)]
   ·rw [if_neg e,if_neg (by omega)]
  ·rw [List.getElem?_eq_none (by rw [bodyW_len (by simpa using b3) (by omega)]; omega),List.getElem?_eq_none (by rw [List.length_set,bodyW_len b3 (by omega)]; omega)]
 ·rename_i e
  refine ob_ext h h' (fun _ _ _ => Iff.rfl) fun q s' eq hm' => bodyW_ext fun i h1 h2 => ?_
  have hne : q ≠ p := fun r => e (by rw [eq,r])
  have := walk_disj h.sz hm' hm hne
  rw [List.getElem?_set,if_neg (by omega)]

end Go.Proofs.YtdcljlafookliaaDoor.AB

set_option maxRecDepth 100000
set_option maxHeartbeats 2000000
namespace Go.Proofs.YtdcljlafookliaaDoor.AB
open Go
noncomputable def X15 : Cx := ⟨tt,[],[(31,[(.pure (.int .i64))]),(37,[(.pure (.int .i64)),(.pure (.int .i64))]),(38,[(.pure .bool)]),(39,[(.pure (.int .i64)),(.pure (.int .i64))])],[(15,[(1,3,.rd),(4,5,.rd),(6,5,.xc),(7,6,.xc),(10,6,.xc)])],[],[]⟩
theorem FN15 : fnsB Tryd.prog X15.fns := (show True from trivial)
theorem E15 (X : XH) (h0 : Nat) (id1 : Int) (n2 : Int) {R : (Int × Int) → XH → Prop} (h : (∃ (p1 : Int × Int),RC Tryd.prog 37 [(.pure (.int .i64)),(.pure (.int .i64))] [(.ref (some h0) yZ1 0 []),(.v (.int .i64 id1)),(.v (.int .i64 n2))] X p1 ∧ (((p1.2 != (0:Int)) = true → R ((0:Int),p1.2) X) ∧
 ((p1.2 != (0:Int)) = false → (∃ (a2 : ((Option Nat) × ((Option Nat) × Int))),XH.el X yZ1 h0 0 = some a2 ∧ (∃ (p3 : Bool),RC Tryd.prog 38 [(.pure .bool)] [(.ref a2.1 yZ0 0 []),(.v (.int .i64 p1.1))] X p3 ∧ (((!p3) = true → R ((0:Int),(23:Int)) X) ∧
 ((!p3) = false → (∃ (a4 : ((Option Nat) × ((Option Nat) × Int))),XH.el X yZ1 h0 0 = some a4 ∧ (XC Tryd.prog 39 [(.pure (.int .i64)),(.pure (.int .i64))] [(.ref a4.1 yZ0 0 []),(.v (.int .i64 p1.1))] X (fun (p5 : Int × Int) (X6 : XH) => (∃ (a7 : ((Option Nat) × ((Option Nat) × Int))),XH.el X6 yZ1 h0 0 = some a7 ∧ (XC Tryd.prog 31 [(.pure (.int .i64))] [(.ref a7.1 yZ0 0 []),(.v (.int .i64 p5.1)),(.v (.int .i64 (0:Int))),(.v (.int .i64 id1))] X6 (fun (p8 : Int) (X9 : XH) => (∃ (a10 : ((Option Nat) × ((Option Nat) × Int))),XH.el X9 yZ1 h0 0 = some a10 ∧ (∃ (es11 : List (Int × (Option (Nat × CV)))),XH.vmp X9 (.int .i64) .ifc a10.2.1 = some es11 ∧ (∀ (v12 : (Option (Nat × CV))),mfind (Cd.keq (.int .i64) id1) es11 = some v12 → ((∀ (y13 : CV),v12 = some (83,y13) → (∃ (a14 : (Int × Unit)),y13 = (⟨(.pair (.int .i64) .unit),a14⟩ : CV) ∧ (∃ (a15 : ((Option Nat) × ((Option Nat) × Int))),XH.el X9 yZ1 h0 0 = some a15 ∧ (XC Tryd.prog 31 [(.pure (.int .i64))] [(.ref a15.1 yZ0 0 []),(.v (.int .i64 p5.1)),(.v (.int .i64 (1:Int))),(.v (.int .i64 n2))] X9 (fun (p16 : Int) (X17 : XH) => R (p5.1,(0:Int)) X17))))) ∧ ((∀ (y13 : CV),v12 ≠ some (83,y13)) → R (p5.1,(0:Int)) X9))) ∧ (mfind (Cd.keq (.int .i64) id1) es11 = none → ((∀ (y18 : CV),none = some (83,y18) → (∃ (a19 : (Int × Unit)),y18 = (⟨(.pair (.int .i64) .unit),a19⟩ : CV) ∧ (∃ (a20 : ((Option Nat) × ((Option Nat) × Int))),XH.el X9 yZ1 h0 0 = some a20 ∧ (XC Tryd.prog 31 [(.pure (.int .i64))] [(.ref a20.1 yZ0 0 []),(.v (.int .i64 p5.1)),(.v (.int .i64 (1:Int))),(.v (.int .i64 n2))] X9 (fun (p21 : Int) (X22 : XH) => R (p5.1,(0:Int)) X22))))) ∧ ((∀ (y18 : CV),none ≠ some (83,y18)) → R (p5.1,(0:Int)) X9))))))))))))))))))) :
  fnK X15.tt (callN Tryd.prog X15 0) (X15.md 15) (X15.mk1 15) Tryd.f15 [(.ref (some h0) yZ1 0 []),(.v (.int .i64 id1)),(.v (.int .i64 n2))] ⟨[],[some (.heap X)],⟨0,[]⟩⟩ (xfin [(.pure (.int .i64)),(.pure (.int .i64))] R) := Eq.mp (by kernel_rfl) h
end Go.Proofs.YtdcljlafookliaaDoor.AB

namespace Go.Proofs.YtdcljlafookliaaDoor.AB
open Go

variable {X X' : XH} {h : Nat} {o : OD} {bs : List Bl}

theorem writeW_of {W : List Int} (h : WOK W bs) {p s k : Nat} (hm : (p,s,true) ∈ walk 1 bs) (hk : k + 1 < s) (v : Int) : placeR bs (p : Int) (k : Int) = (((p + 1 + k : Nat) : Int),0) ∧ writeW W bs (p : Int) (k : Int) v = W.set (p + 1 + k) v := by
  have e : placeR bs (p : Int) (k : Int) = (((p + 1 + k : Nat) : Int),0) := by
    rw [placeR_of h hm,if_neg (by omega),if_neg (by omega)]
    exact Prod.ext (by simp only; omega) rfl
  refine ⟨e,?_⟩
  unfold writeW
  rw [e,if_pos rfl,Int.toNat_natCast]

def mkBody (s : Shp) (id n : Int) (L : Nat) : List Int :=
  match s with
  | .row _ => ((List.replicate L (0:Int)).set 0 id).set 1 n
  | _ => (List.replicate L (0:Int)).set 0 id

def mkW (W : List Int) (p : Nat) (s : Shp) (id n : Int) : List Int :=
  match s with
  | .row _ => (W.set (p + 1 + 0) id).set (p + 1 + 1) n
  | _ => W.set (p + 1 + 0) id

def OMakeQ (X : XH) (h : Nat) (o : OD) (bs : List Bl) (id n : Int) (p : Int × Int) (X' : XH) : Prop :=
  ∃ o',RepH X' h o' ∧ Mv X (o.hs h) X' (o'.hs h) ∧ o'.ts = o.ts ∧ o'.last = o.last ∧
   (((bodyR o id n).2 ≠ 0 ∧ p = (0,(bodyR o id n).2) ∧ o' = o) ∨
    ((bodyR o id n).2 = 0 ∧ fitsR o id n = false ∧ p = (0,23) ∧ o' = o) ∨
    ∃ (sh : Shp) (m s : Nat) (pre post : List Bl),bodyR o id n = ((m : Int),0) ∧ 1 ≤ m ∧ m ≤ 1048576 ∧ fitsR o id n = true ∧ tfind o.ts id = some sh ∧ BestAt bs m pre s post ∧ p = (((1 + sumS pre : Nat) : Int),0) ∧
      DOK o'.d (allocB pre m s post) ∧ o'.d.W = mkW (allocW o.d.W (1 + sumS pre) m s) (1 + sumS pre) sh id n ∧
      ∀ a,ob o'.d.W (allocB pre m s post) a = if a = ((1 + sumS pre : Nat) : Int) then some (mkBody sh id n (allocS m s - 1)) else ob o.d.W bs a)

theorem bodyR_ok {id n : Int} (e : (bodyR o id n).2 = 0) : ∃ s,tfind o.ts id = some s ∧ 0 ≤ n ∧ n ≤ 1048576 ∧ bodyR o id n = bodyS s n := by
  cases hf : tfind o.ts id with
  | none => rw [bodyR_none hf] at e; cases e
  | some s =>
    rw [bodyR_some hf] at e ⊢
    split at e
    · cases e
    split at e
    · cases e
    rename_i h1 h2
    rw [if_neg h1,if_neg h2]
    exact ⟨s,rfl,by omega,by omega,rfl⟩

theorem w64 {x : Int} (h1 : -9223372036854775808 ≤ x) (h2 : x ≤ 9223372036854775807) : W64 x = x := wrap64 h1 h2

theorem c15 (r : RepH X h o) (hd : DOK o.d bs) (id n : Int) : XC Tryd.prog 15 [.pure (.int .i64),.pure (.int .i64)] [.ref (some h) cH 0 [],.v (.int .i64 id),.v (.int .i64 n)] X (OMakeQ X h o bs id n) := by
  refine xcOf (X := X15) rfl FN15 (by kernel_rfl) (by decide) (E15 X h id n ⟨_,c37 r id n,fun e => ?_,fun e => ⟨o.val,r.el,_,c38 r.r hd _ (bodyR_bd o id n),fun e2 => ?_,fun e2 => ?_⟩⟩)
  · have e : ¬ (bodyR o id n).2 = 0 := by simpa using e
    exact ⟨o,r,.refl _ _,rfl,rfl,.inl ⟨e,rfl,rfl⟩⟩
  · have e : (bodyR o id n).2 = 0 := by simpa using e
    have hf : fitsR o id n = false := by unfold fitsR; rw [if_pos e]; simpa using e2
    exact ⟨o,r,.refl _ _,rfl,rfl,.inr (.inl ⟨e,hf,rfl,rfl⟩)⟩
  have e : (bodyR o id n).2 = 0 := by simpa using e
  have e2 : (bestR o.d.L (bodyR o id n).1).2 = true := by simpa using e2
  have hf : fitsR o id n = true := by unfold fitsR; rw [if_pos e]; exact e2
  obtain ⟨f1,f2,q,sq,hq,hs⟩ := (fits_iff hd _).1 e2
  obtain ⟨m,hm⟩ : ∃ m : Nat,(bodyR o id n).1 = m := ⟨(bodyR o id n).1.toNat,by omega⟩
  obtain ⟨sh,hsh,n0,n1,hbs⟩ := bodyR_ok e
  refine ⟨o.val,r.el,(c39 r.r hd _ (bodyR_bd o id n)).mono fun p5 X6 hp5 => ?_⟩
  obtain ⟨d1,r1,m1,hp5⟩ := hp5
  rcases hp5 with ⟨g,_⟩ | ⟨m',hm',g1,g2,hp5⟩
  · exact absurd ⟨f1,f2⟩ g
  obtain rfl : m' = m := by omega
  rcases hp5 with ⟨g,_⟩ | ⟨pre,s,post,hb,rfl,hW1,hd1⟩
  · exact absurd (by omega) (g q sq hq)
  obtain ⟨k1,k2⟩ := r.turn r1 m1
  have hmem : (1 + sumS pre,allocS m' s,true) ∈ walk 1 (allocB pre m' s post) := (used_alloc hb _ _).2 (.inr ⟨rfl,rfl⟩)
  have hS : m' + 1 ≤ allocS m' s := by
    have := hb.le
    unfold allocS; split <;> omega
  have w1 := writeW_of hd1.w hmem (k := 0) (by omega) id
  have hob1 := fun a => ob_alloc hd.w hb g1 a
  rw [← hW1] at hob1
  have hbody1 : bodyW d1.W (1 + sumS pre) (allocS m' s) = List.replicate (allocS m' s - 1) 0 := by
    have := hob1 ((1 + sumS pre : Nat) : Int)
    rw [if_pos rfl,ob_of hd1.w hmem] at this
    exact Option.some.inj this
  refine ⟨_,k1.el,(c31 k1.r hd1 _ 0 id).mono fun p8 X9 hp8 => ?_⟩
  obtain ⟨hp8,d2,r2,m2,hd2e,hd2⟩ := hp8
  obtain ⟨k3,k4⟩ := k1.turn r2 m2
  have hW2 : d2.W = d1.W.set (1 + sumS pre + 1 + 0) id := by rw [hd2e]; exact w1.2
  have hob2 : ∀ a,ob d2.W (allocB pre m' s post) a = if a = ((1 + sumS pre : Nat) : Int) then some ((List.replicate (allocS m' s - 1) (0:Int)).set 0 id) else ob o.d.W bs a := by
    intro a
    have h2 := hd2.w
    rw [hW2] at h2 ⊢
    rw [ob_set hd1.w hmem (by omega) id h2 a,hbody1]
    split
    · rfl
    · rename_i ne
      rw [hob1,if_neg ne]
  have hbm : bodyR o id n = ((m' : Int),0) := Prod.ext hm e
  refine ⟨_,k3.el,_,k3.vmp,fun v hv => ?_,fun hv => (find_some0 (o := { o with d := d2 }) hsh hv).elim⟩
  have hv := find_some (o := { o with d := d2 }) hsh hv
  subst hv
  refine ⟨fun y hy => ?_,fun n2 => ?_⟩
  · obtain ⟨k,e3,rfl⟩ := sw_row (s := some sh) hy
    cases e3
    refine ⟨_,rfl,_,k3.el,(c31 k3.r hd2 _ 1 n).mono fun p16 X17 hp16 => ?_⟩
    obtain ⟨hp16,d3,r3,m3,hd3e,hd3⟩ := hp16
    obtain ⟨k5,k6⟩ := k3.turn r3 m3
    have hm2 : m' = n + 2 := by
      have : bodyS (.row k) n = ((m' : Int),0) := by rw [← hbs]; exact hbm
      have := congrArg Prod.fst this
      simp only [bodyS] at this
      rw [w64 (by omega) (by omega)] at this
      omega
    have hW3 : d3.W = d2.W.set (1 + sumS pre + 1 + 1) n := by rw [hd3e]; exact (writeW_of hd2.w hmem (k := 1) (by omega) n).2
    have hbody2 : bodyW d2.W (1 + sumS pre) (allocS m' s) = (List.replicate (allocS m' s - 1) (0:Int)).set 0 id := by
      have := hob2 ((1 + sumS pre : Nat) : Int)
      rw [if_pos rfl,ob_of hd2.w hmem] at this
      exact Option.some.inj this
    refine ⟨_,k5,(k2.trans k4).trans k6,rfl,rfl,.inr (.inr ⟨.row k,m',s,pre,post,hbm,g1,g2,hf,hsh,hb,rfl,hd3,?_,fun a => ?_⟩)⟩
    · show d3.W = _
      rw [hW3,hW2,hW1]; rfl
    · show ob d3.W _ a = _
      have h3 := hd3.w
      rw [hW3] at h3 ⊢
      rw [ob_set hd2.w hmem (by omega) n h3 a,hbody2]
      split
      · rfl
      · rename_i ne
        rw [hob2,if_neg ne]
  · have hsh' : mkBody sh id n (allocS m' s - 1) = (List.replicate (allocS m' s - 1) (0:Int)).set 0 id ∧ mkW (allocW o.d.W (1 + sumS pre) m' s) (1 + sumS pre) sh id n = (allocW o.d.W (1 + sumS pre) m' s).set (1 + sumS pre + 1 + 0) id := by
      cases sh with
      | plain q => exact ⟨rfl,rfl⟩
      | row k => exact absurd rfl (n2 _)
      | single k => exact ⟨rfl,rfl⟩
    refine ⟨_,k3,k2.trans k4,rfl,rfl,.inr (.inr ⟨sh,m',s,pre,post,hbm,g1,g2,hf,hsh,hb,rfl,hd2,?_,fun a => ?_⟩)⟩
    · show d2.W = _
      rw [hW2,hW1,hsh'.2]
    · rw [hsh'.1]; exact hob2 a

end Go.Proofs.YtdcljlafookliaaDoor.AB

set_option maxRecDepth 100000
set_option maxHeartbeats 2000000
namespace Go.Proofs.YtdcljlafookliaaDoor.AB
open Go
noncomputable def X33 : Cx := ⟨tt,[],[(13,[(.pure (.int .i64)),(.pure .bool)]),(17,[(.pure (.int .i64)),(.pure .bool),(.pure (.int .i64))])],[(33,[(1,2,.rd),(6,5,.rd)])],[(33,[(0,mkM 35 0 [0,1,7,18,19],1)])],[]⟩
theorem FN33 : fnsB Tryd.prog X33.fns := (show True from trivial)
def M33_0 : List Bool × Nat := (mkM 35 0 [0,1,7,18,19],2)
def S33_0 (h0 : Nat) (at1 : Int) (l7n : Nat) (t18 : Int) (t19 : Int) (hq0 : XH) (hq1 : List Int) (hq1s : Nat → Tok) (T : Toks) : St :=
  mkS 35 [(0,(.ref (some h0) yZ1 0 [])),(1,(.v (.int .i64 at1))),(7,(.arr 1 0 0 l7n)),(18,(.v (.int .i64 t18))),(19,(.v (.int .i64 t19)))] [(some (.heap hq0)),(some (.arr 0 (.int .i64) hq1 hq1s))] T
noncomputable def B33_0 : (Exit → St → Prop) → St → Prop := (awp X33.tt (callN Tryd.prog X33 0) (X33.md 33) 1 (X33.mk1 33) 0 (codeAt [1,1,1,0,1,0,0] (bd Tryd.f33)))
noncomputable def K33_0 (R : ((List Int)) → XH → Prop) : Exit → St → Prop := seqK ((awp X33.tt (callN Tryd.prog X33 0) (X33.md 33) 1 (X33.mk1 33) 0 (codeAt [1,1,1,1] (bd Tryd.f33))) (retK tt Tryd.f33.results.toList fun x s' => xfin [(.pure (.slice (.int .i64)))] R x ⟨[],s'.hp,s'.T⟩)) (retK tt Tryd.f33.results.toList fun x s' => xfin [(.pure (.slice (.int .i64)))] R x ⟨[],s'.hp,s'.T⟩)
noncomputable def Q33_0 (R : ((List Int)) → XH → Prop) : Exit → St → Prop := (blockK 0 (K33_0 R))
theorem E33 (X : XH) (h0 : Nat) (at1 : Int) {R : ((List Int)) → XH → Prop} (h : (∃ (p1 : Int × Bool),RC Tryd.prog 13 [(.pure (.int .i64)),(.pure .bool)] [(.ref (some h0) yZ1 0 []),(.v (.int .i64 at1))] X p1 ∧ (0 ≤ p1.1 ∧ p1.1 ≤ p1.1 ∧ p1.1 * (8:Int) ≤ (room : Int) ∧ p1.1 ≤ 9223372036854775807 ∧ (Loops B33_0 M33_0 (Q33_0 R)
  (S33_0 h0 at1 ((p1.1).toNat) ((((p1.1).toNat : Nat) : Int)) (0:Int) X ((List.replicate (p1.1).toNat (0:Int))) (fun _ => .no) ⟨0,[]⟩))))) :
  fnK X33.tt (callN Tryd.prog X33 0) (X33.md 33) (X33.mk1 33) Tryd.f33 [(.ref (some h0) yZ1 0 []),(.v (.int .i64 at1))] ⟨[],[some (.heap X)],⟨0,[]⟩⟩ (xfin [(.pure (.slice (.int .i64)))] R) := Eq.mp (by kernel_rfl) h
theorem L33_0 (h0 : Nat) (at1 : Int) (l7n : Nat) (t18 : Int) (t19 : Int) (hq0 : XH) (hq1 : List Int) (hq1s : Nat → Tok) (T : Toks) {R : ((List Int)) → XH → Prop} {k0 : St → Prop}
 (h : (((decide (t19 < t18)) = true → (∃ (p2 : Int × Bool × Int),RC Tryd.prog 17 [(.pure (.int .i64)),(.pure .bool),(.pure (.int .i64))] [(.ref (some h0) yZ1 0 []),(.v (.int .i64 at1)),(.v (.int .i64 t19))] hq0 p2 ∧ (0 = 0 ∧ 0 ≤ t19 ∧ t19 < ((l7n : Nat) : Int) ∧ (0 = 0 ∧ (0 + (t19).toNat) < (hq1).length ∧ k0 (S33_0 h0 at1 l7n t18 ((IntKind.wrap .i64 (t19 + (1:Int)))) hq0 ((hq1.set ((0 + (t19).toNat)) p2.1)) ((fun j => if j = (0 + (t19).toNat) then .no else hq1s j)) T))))) ∧
 ((decide (t19 < t18)) = false → (0 = 0 ∧ 0 + l7n ≤ (hq1).length ∧ R (((hq1.drop 0).take l7n)) hq0)))) :
  B33_0 (loopQ M33_0 k0 (Q33_0 R)) (S33_0 h0 at1 l7n t18 t19 hq0 hq1 hq1s T) := Eq.mp (by kernel_rfl) h
end Go.Proofs.YtdcljlafookliaaDoor.AB

set_option maxRecDepth 100000
set_option maxHeartbeats 2000000
namespace Go.Proofs.YtdcljlafookliaaDoor.AB
open Go
noncomputable def X14 : Cx := ⟨tt,[],[(32,[.ifc,(.pure .bool)]),(33,[(.pure (.slice (.int .i64)))]),(36,[(.pure (.int .i64)),(.pure .bool),(.pure (.int .i64))])],[(14,[(1,2,.rd),(2,4,.meth "crucible/object.kind" (.int .i64)),(5,2,.rd),(8,3,.rd)])],[(14,[(0,mkM 54 0 [0,1,7,28,29,30],0)])],[]⟩
theorem FN14 : fnsB Tryd.prog X14.fns := (show True from trivial)
def M14_0 : List Bool × Nat := (mkM 54 0 [0,1,7,28,29,30],1)
def S14_0 (h0 : Nat) (at1 : Int) (l7 : List Int) (l7k : Tok) (t28 : List Int) (t29 : Int) (t30 : Int) (hq0 : XH) (T : Toks) : St :=
  mkS 54 [(0,(.ref (some h0) yZ1 0 [])),(1,(.v (.int .i64 at1))),(7,(.v (.list (.int .i64) l7 l7k))),(28,(.v (.list (.int .i64) t28 .no))),(29,(.v (.int .i64 t29))),(30,(.v (.int .i64 t30)))] [(some (.heap hq0))] T
noncomputable def B14_0 : (Exit → St → Prop) → St → Prop := (awp X14.tt (callN Tryd.prog X14 0) (X14.md 14) 1 (X14.mk1 14) 0 (codeAt [1,1,1,1,0,1,0,0] (bd Tryd.f14)))
noncomputable def K14_0 (R : ((List Int)) → XH → Prop) : Exit → St → Prop := seqK ((awp X14.tt (callN Tryd.prog X14 0) (X14.md 14) 1 (X14.mk1 14) 0 (codeAt [1,1,1,1,1] (bd Tryd.f14))) (retK tt Tryd.f14.results.toList fun x s' => xfin [(.pure (.slice (.int .i64)))] R x ⟨[],s'.hp,s'.T⟩)) (retK tt Tryd.f14.results.toList fun x s' => xfin [(.pure (.slice (.int .i64)))] R x ⟨[],s'.hp,s'.T⟩)
noncomputable def Q14_0 (R : ((List Int)) → XH → Prop) : Exit → St → Prop := (blockK 0 (K14_0 R))
theorem E14 (X : XH) (h0 : Nat) (at1 : Int) {R : ((List Int)) → XH → Prop} (h : (∃ (p1 : (Option (Nat × CV)) × Bool),RC Tryd.prog 32 [.ifc,(.pure .bool)] [(.ref (some h0) yZ1 0 []),(.v (.int .i64 at1))] X p1 ∧ (((!p1.2) = true → R ([] : List Int) X) ∧ ((!p1.2) = false → (∃ (p2 : Int),MC Tryd.prog "crucible/object.kind" p1.1 (.int .i64 p2) ∧ (((p2 == (5:Int)) = true → R ([] : List Int) X) ∧
 ((p2 == (5:Int)) = false → (∃ (p3 : (List Int)),RC Tryd.prog 33 [(.pure (.slice (.int .i64)))] [(.ref (some h0) yZ1 0 []),(.v (.int .i64 at1))] X p3 ∧ (Loops B14_0 M14_0 (Q14_0 R)
  (S14_0 h0 at1 ([] : List Int) .exact p3 (((p3).length : Int)) (0:Int) X ⟨0,[]⟩)))))))))) :
  fnK X14.tt (callN Tryd.prog X14 0) (X14.md 14) (X14.mk1 14) Tryd.f14 [(.ref (some h0) yZ1 0 []),(.v (.int .i64 at1))] ⟨[],[some (.heap X)],⟨0,[]⟩⟩ (xfin [(.pure (.slice (.int .i64)))] R) := Eq.mp (by kernel_rfl) h
theorem L14_0 (h0 : Nat) (at1 : Int) (l7 : List Int) (l7k : Tok) (t28 : List Int) (t29 : Int) (t30 : Int) (hq0 : XH) (T : Toks) {R : ((List Int)) → XH → Prop} {k0 : St → Prop}
 (h : (((decide (t30 < t29)) = true → (0 ≤ t30 ∧ t30 < ((t28).length : Int) ∧ (∃ (p4 : Int × Bool × Int),RC Tryd.prog 36 [(.pure (.int .i64)),(.pure .bool),(.pure (.int .i64))] [(.ref (some h0) yZ1 0 []),(.v (.int .i64 at1)),(.v (.int .i64 t30))] hq0 p4 ∧ ((p4.2.1 = true → ((((t28.getD (t30).toNat 0) != (0:Int)) = true → (Tok.own l7k T.l ∧ ((l7).length + (([(t28.getD (t30).toNat 0)] : List Int)).length) * 8 ≤ room ∧ k0 (S14_0 h0 at1 ((l7 ++ ([(t28.getD (t30).toNat 0)] : List Int))) (.tk T.n) t28 t29 ((IntKind.wrap .i64 (t30 + (1:Int)))) hq0 ⟨(T.n + 1),(T.n :: Tok.drop l7k T.l)⟩))) ∧
 (((t28.getD (t30).toNat 0) != (0:Int)) = false → k0 (S14_0 h0 at1 l7 l7k t28 t29 ((IntKind.wrap .i64 (t30 + (1:Int)))) hq0 T)))) ∧ (p4.2.1 = false → k0 (S14_0 h0 at1 l7 l7k t28 t29 ((IntKind.wrap .i64 (t30 + (1:Int)))) hq0 T)))))) ∧
 ((decide (t30 < t29)) = false → R l7 hq0))) :
  B14_0 (loopQ M14_0 k0 (Q14_0 R)) (S14_0 h0 at1 l7 l7k t28 t29 t30 hq0 T) := Eq.mp (by kernel_rfl) h
end Go.Proofs.YtdcljlafookliaaDoor.AB

namespace Go.Proofs.YtdcljlafookliaaDoor.AB
open Go

variable {X X' : XH} {h : Nat} {o : OD} {bs : List Bl}

def slotsR (o : OD) (bs : List Bl) (a : Int) : List Int := (List.range (lenR o bs a).1.toNat).map fun i => (getR o bs a (i : Nat)).1

theorem slotsR_len {a : Int} : (slotsR o bs a).length = (lenR o bs a).1.toNat := by simp [slotsR]
theorem slotsR_get {a : Int} {i : Nat} (hi : i < (lenR o bs a).1.toNat) : (slotsR o bs a).getD i 0 = (getR o bs a (i : Nat)).1 := by
 simp [slotsR,List.getD,List.getElem?_map,List.getElem?_range hi]

theorem c33 (r : RepH X h o) (hd : DOK o.d bs) (a : Int) (h0 : 0 ≤ (lenR o bs a).1) (h1 : (lenR o bs a).1 ≤ 1048576) : RC Tryd.prog 33 [.pure (.slice (.int .i64))] [.ref (some h) cH 0 [],.v (.int .i64 a)] X (slotsR o bs a) := by
 obtain ⟨n,hn⟩ : ∃ n : Nat,(lenR o bs a).1 = n := ⟨(lenR o bs a).1.toNat,by omega⟩
 refine xcOf (X := X33) rfl FN33 (by kernel_rfl) (by decide) (E33 X h a ⟨_,c13 r hd a,h0,Int.le_refl _,?_,by omega,?_⟩)
 ·show (lenR o bs a).1 * 8 ≤ ((140737488355328:Nat) : Int)
  omega
 rw [hn,Int.toNat_natCast]
 refine Loops.intro (fun q : Nat × List Int × (Nat → Tok) => S33_0 h a n (n : Nat) (q.1 : Nat) X q.2.1 q.2.2 ⟨0,[]⟩) (fun q => q.1 ≤ n ∧ q.2.1.length = n ∧ q.2.1.take q.1 = (List.range q.1).map fun i => (getR o bs a (i : Nat)).1) (fun q => n - q.1)
  (0,List.replicate n 0,fun _ => .no) rfl ⟨Nat.zero_le _,by simp,by simp⟩ ?_
 rintro ⟨i,l,ts⟩ ⟨hi,hl,ht⟩
 have hi : i ≤ n := hi
 have hl : l.length = n := hl
 have ht : l.take i = (List.range i).map fun i => (getR o bs a (i : Nat)).1 := ht
 refine L33_0 h a n (n : Nat) (i : Nat) X l ts ⟨0,[]⟩ ⟨fun e => ?_,fun e => ?_⟩
 ·have e := of_decide_eq_true e
  have hlt : i < n := by omega
  refine ⟨_,c17 r hd a _,rfl,by omega,by omega,rfl,by rw [Int.toNat_natCast]; omega,?_⟩
  rw [wrap64 (by omega) (by omega),Int.toNat_natCast,Nat.zero_add]
  refine Again.mk (i + 1,l.set i (getR o bs a (i : Nat)).1,_) rfl ⟨show i + 1 ≤ n by omega,by simp [hl],?_⟩ (show n - (i + 1) < n - i by omega)
  show (l.set i (getR o bs a (i : Nat)).1).take (i + 1) = _
  rw [List.range_succ,List.map_append,← ht,List.take_succ_eq_append_getElem (by simp [hl,hlt])]
  simp [List.take_set_of_le]
 ·have e := of_decide_eq_false e
  have hge : i = n := by omega
  refine ⟨rfl,by omega,?_,rfl⟩
  rw [List.drop_zero]
  unfold slotsR
  rw [hn,Int.toNat_natCast,← hge,ht]

def refsTo (o : OD) (bs : List Bl) (a : Int) (k : Nat) : List Int :=
 ((List.range k).filter fun i => (slotR o bs a (i : Nat)).2.1 && ((getR o bs a (i : Nat)).1 != 0)).map fun i => (getR o bs a (i : Nat)).1

theorem refsTo_succ {a : Int} {k : Nat} : refsTo o bs a (k + 1) = if (slotR o bs a (k : Nat)).2.1 = true ∧ (getR o bs a (k : Nat)).1 ≠ 0 then refsTo o bs a k ++ [(getR o bs a (k : Nat)).1] else refsTo o bs a k := by
 unfold refsTo
 rw [List.range_succ,List.filter_append,List.map_append]
 by_cases c : (slotR o bs a (k : Nat)).2.1 = true ∧ (getR o bs a (k : Nat)).1 ≠ 0
 ·rw [if_pos c]
  simp [List.filter_cons,c.1,c.2]
 ·rw [if_neg c]
  have : ((slotR o bs a (k : Nat)).2.1 && ((getR o bs a (k : Nat)).1 != 0)) = false := by
   cases c1 : (slotR o bs a (k : Nat)).2.1
   ·rfl
   ·simp only [Bool.true_and,bne_eq_false_iff_eq]
    exact Classical.byContradiction fun q => c ⟨c1,q⟩
  simp [List.filter_cons,this]

theorem refsTo_len {a : Int} (k : Nat) : (refsTo o bs a k).length ≤ k := by
 unfold refsTo
 rw [List.length_map]
 exact Nat.le_trans (List.length_filter_le _ _) (by simp)

def refsR (o : OD) (bs : List Bl) (a : Int) : List Int :=
 match objR o bs a with
 | none => []
 | some s => if s.kind = 5 then [] else refsTo o bs a (lenR o bs a).1.toNat

theorem refsR_none {a : Int} (e : objR o bs a = none) : refsR o bs a = [] := by unfold refsR; rw [e]
theorem refsR_some {a : Int} {s : Shp} (e : objR o bs a = some s) : refsR o bs a = if s.kind = 5 then [] else refsTo o bs a (lenR o bs a).1.toNat := by unfold refsR; rw [e]

theorem c14 (r : RepH X h o) (hd : DOK o.d bs) (a : Int) (h0 : 0 ≤ (lenR o bs a).1) (h1 : (lenR o bs a).1 ≤ 1048576) : RC Tryd.prog 14 [.pure (.slice (.int .i64))] [.ref (some h) cH 0 [],.v (.int .i64 a)] X (refsR o bs a) := by
 obtain ⟨n,hn⟩ : ∃ n : Nat,(lenR o bs a).1 = n := ⟨(lenR o bs a).1.toNat,by omega⟩
 refine xcOf (X := X14) rfl FN14 (by kernel_rfl) (by decide) (E14 X h a ⟨_,c32 r hd a,fun e => ?_,fun e => ?_⟩)
 ·cases ho : objR o bs a with
  | none => rw [refsR_none ho]; exact ⟨rfl,rfl⟩
  | some s => rw [ho] at e; cases e
 cases ho : objR o bs a with
 | none => rw [ho] at e; cases e
 | some s =>
  rw [refsR_some ho]
  refine ⟨_,mc_kind s,fun e1 => ?_,fun e1 => ⟨_,c33 r hd a h0 h1,?_⟩⟩
  ·rw [if_pos (by simpa using e1)]; exact ⟨rfl,rfl⟩
  rw [if_neg (by simpa using e1),slotsR_len,hn,Int.toNat_natCast]
  refine Loops.intro (fun q : Nat × Tok × Toks => S14_0 h a (refsTo o bs a q.1) q.2.1 (slotsR o bs a) (n : Nat) (q.1 : Nat) X q.2.2) (fun q => q.1 ≤ n ∧ q.2.1.own q.2.2.l) (fun q => n - q.1) (0,.exact,⟨0,[]⟩) rfl ⟨Nat.zero_le _,trivial⟩ ?_
  rintro ⟨i,k,T⟩ ⟨hi,hk⟩
  have hi : i ≤ n := hi
  refine L14_0 h a (refsTo o bs a i) k (slotsR o bs a) (n : Nat) (i : Nat) X T ⟨fun e => ?_,fun e => ?_⟩
  ·have e := of_decide_eq_true e
   have hlt : i < n := by omega
   have hg : (slotsR o bs a).getD ((i : Nat) : Int).toNat 0 = (getR o bs a (i : Nat)).1 := by
    rw [Int.toNat_natCast]; exact slotsR_get (by omega)
   have hle := refsTo_len (o := o) (bs := bs) (a := a) i
   refine ⟨by omega,by rw [slotsR_len]; omega,_,c36 r hd a _,fun e2 => ⟨fun e3 => ⟨hk,?_,?_⟩,fun e3 => ?_⟩,fun e2 => ?_⟩
   ·show ((refsTo o bs a i).length + 1) * 8 ≤ 140737488355328
    omega
   ·rw [hg] at e3 ⊢
    rw [wrap64 (by omega) (by omega)]
    refine Again.mk (i + 1,.tk T.n,⟨T.n + 1,T.n :: Tok.drop k T.l⟩) ?_ ⟨show i + 1 ≤ n by omega,show T.n ∈ T.n :: Tok.drop k T.l from List.mem_cons_self ..⟩ (show n - (i + 1) < n - i by omega)
    have hs : refsTo o bs a (i + 1) = refsTo o bs a i ++ [(getR o bs a (i : Nat)).1] := by rw [refsTo_succ,if_pos ⟨e2,by simpa using e3⟩]
    show _ = S14_0 h a (refsTo o bs a (i + 1)) _ _ _ _ _ _
    rw [hs]; rfl
   ·rw [hg] at e3
    rw [wrap64 (by omega) (by omega)]
    refine Again.mk (i + 1,k,T) ?_ ⟨show i + 1 ≤ n by omega,hk⟩ (show n - (i + 1) < n - i by omega)
    have hs : refsTo o bs a (i + 1) = refsTo o bs a i := by rw [refsTo_succ,if_neg (fun c => c.2 (by simpa using e3))]
    show _ = S14_0 h a (refsTo o bs a (i + 1)) _ _ _ _ _ _
    rw [hs]; rfl
   ·rw [wrap64 (by omega) (by omega)]
    refine Again.mk (i + 1,k,T) ?_ ⟨show i + 1 ≤ n by omega,hk⟩ (show n - (i + 1) < n - i by omega)
    have hs : refsTo o bs a (i + 1) = refsTo o bs a i := by rw [refsTo_succ,if_neg (fun c => by rw [c.1] at e2; cases e2)]
    show _ = S14_0 h a (refsTo o bs a (i + 1)) _ _ _ _ _ _
    rw [hs]; rfl
  ·have e := of_decide_eq_false e
   have hge : i = n := by omega
   rw [hge]; exact ⟨rfl,rfl⟩

end Go.Proofs.YtdcljlafookliaaDoor.AB

set_option maxRecDepth 100000
set_option maxHeartbeats 2000000
namespace Go.Proofs.YtdcljlafookliaaDoor.AB
open Go
noncomputable def X12 : Cx := ⟨tt,[],[(32,[.ifc,(.pure .bool)]),(33,[(.pure (.slice (.int .i64)))])],[(12,[(1,2,.rd),(2,4,.meth "crucible/object.kind" (.int .i64)),(5,2,.rd),(8,3,.inl)]),(34,[(3,2,.inl)])],[(12,[(0,mkM 39 0 [8,26,27,28],0)])],[(34,Tryd.f34),(49,Tryd.f49)]⟩
theorem FN12 : fnsB Tryd.prog X12.fns := (show (Tryd.prog.funcs[34]? = some Tryd.f34 ∧ Tryd.f34.name ≠ "runtime.NumGoroutine" ∧ (Tryd.prog.funcs[49]? = some Tryd.f49 ∧ Tryd.f49.name ≠ "runtime.NumGoroutine" ∧ True)) from ⟨by kernel_rfl,by decide,⟨by kernel_rfl,by decide,trivial⟩⟩)
def M12_0 : List Bool × Nat := (mkM 39 0 [8,26,27,28],1)
def S12_0 (b8 : List Int) (b8k : Tok) (t26 : List Int) (t27 : Int) (t28 : Int) (hq0 : XH) (T : Toks) : St :=
  mkS 39 [(8,(.v (.list (.int .u8) b8 b8k))),(26,(.v (.list (.int .i64) t26 .no))),(27,(.v (.int .i64 t27))),(28,(.v (.int .i64 t28)))] [(some (.heap hq0))] T
noncomputable def B12_0 : (Exit → St → Prop) → St → Prop := (awp X12.tt (callN Tryd.prog X12 2) (X12.md 12) 1 (X12.mk1 12) 0 (codeAt [1,1,1,0,1,0,0] (bd Tryd.f12)))
noncomputable def K12_0 (R : ((List UInt8) × Bool) → XH → Prop) : Exit → St → Prop := seqK ((awp X12.tt (callN Tryd.prog X12 2) (X12.md 12) 1 (X12.mk1 12) 0 (codeAt [1,1,1,1] (bd Tryd.f12))) (retK tt Tryd.f12.results.toList fun x s' => xfin [(.pure .str),(.pure .bool)] R x ⟨[],s'.hp,s'.T⟩)) (retK tt Tryd.f12.results.toList fun x s' => xfin [(.pure .str),(.pure .bool)] R x ⟨[],s'.hp,s'.T⟩)
noncomputable def Q12_0 (R : ((List UInt8) × Bool) → XH → Prop) : Exit → St → Prop := (blockK 0 (K12_0 R))
theorem E12 (X : XH) (h0 : Nat) (at1 : Int) {R : ((List UInt8) × Bool) → XH → Prop} (h : (∃ (p1 : (Option (Nat × CV)) × Bool),RC Tryd.prog 32 [.ifc,(.pure .bool)] [(.ref (some h0) yZ1 0 []),(.v (.int .i64 at1))] X p1 ∧ (((!p1.2) = true → R (([] : List UInt8),false) X) ∧ ((!p1.2) = false → (∃ (p2 : Int),MC Tryd.prog "crucible/object.kind" p1.1 (.int .i64 p2) ∧ (((p2 != (4:Int)) = true → R (([] : List UInt8),false) X) ∧
 ((p2 != (4:Int)) = false → (∃ (p3 : (List Int)),RC Tryd.prog 33 [(.pure (.slice (.int .i64)))] [(.ref (some h0) yZ1 0 []),(.v (.int .i64 at1))] X p3 ∧ (Loops B12_0 M12_0 (Q12_0 R)
  (S12_0 ([] : List Int) .exact p3 (((p3).length : Int)) (0:Int) X ⟨0,[]⟩)))))))))) :
  fnK X12.tt (callN Tryd.prog X12 2) (X12.md 12) (X12.mk1 12) Tryd.f12 [(.ref (some h0) yZ1 0 []),(.v (.int .i64 at1))] ⟨[],[some (.heap X)],⟨0,[]⟩⟩ (xfin [(.pure .str),(.pure .bool)] R) := Eq.mp (by kernel_rfl) h
theorem L12_0 (b8 : List Int) (b8k : Tok) (t26 : List Int) (t27 : Int) (t28 : Int) (hq0 : XH) (T : Toks) {R : ((List UInt8) × Bool) → XH → Prop} {k0 : St → Prop}
 (h : (((decide (t28 < t27)) = true → (0 ≤ t28 ∧ t28 < ((t26).length : Int) ∧ (((decide ((IntKind.wrap .u32 (IntKind.wrap .i32 (t26.getD (t28).toNat 0))) ≤ (127:Int))) = true → (Tok.own b8k T.l ∧ ((b8).length + (([(IntKind.wrap .u8 (IntKind.wrap .i32 (t26.getD (t28).toNat 0)))] : List Int)).length) * 1 ≤ room ∧ k0 (S12_0 ((b8 ++ ([(IntKind.wrap .u8 (IntKind.wrap .i32 (t26.getD (t28).toNat 0)))] : List Int))) (.tk T.n) t26 t27 ((IntKind.wrap .i64 (t28 + (1:Int)))) hq0 ⟨(T.n + 1),(T.n :: Tok.drop b8k T.l)⟩))) ∧
 ((decide ((IntKind.wrap .u32 (IntKind.wrap .i32 (t26.getD (t28).toNat 0))) ≤ (127:Int))) = false → (((decide ((IntKind.wrap .u32 (IntKind.wrap .i32 (t26.getD (t28).toNat 0))) ≤ (2047:Int))) = true → (0 ≤ (6:Int) ∧ (Tok.own b8k T.l ∧ ((b8).length + (([(IntKind.wrap .u8 (((BitVec.ofInt (IntKind.bits .u8) (192:Int) ||| BitVec.ofInt (IntKind.bits .u8) ((IntKind.wrap .u8 (Int.fdiv (IntKind.wrap .i32 (t26.getD (t28).toNat 0)) (2 ^ min ((6:Int)).toNat (IntKind.bits .i32)))))).toNat : Int))),(IntKind.wrap .u8 (((BitVec.ofInt (IntKind.bits .u8) (128:Int) ||| BitVec.ofInt (IntKind.bits .u8) ((IntKind.wrap .u8 (((BitVec.ofInt (IntKind.bits .u8) ((IntKind.wrap .u8 (IntKind.wrap .i32 (t26.getD (t28).toNat 0)))) &&& BitVec.ofInt (IntKind.bits .u8) (63:Int)).toNat : Int))))).toNat : Int)))] : List Int)).length) * 1 ≤ room ∧ k0 (S12_0 ((b8 ++ ([(IntKind.wrap .u8 (((BitVec.ofInt (IntKind.bits .u8) (192:Int) ||| BitVec.ofInt (IntKind.bits .u8) ((IntKind.wrap .u8 (Int.fdiv (IntKind.wrap .i32 (t26.getD (t28).toNat 0)) (2 ^ min ((6:Int)).toNat (IntKind.bits .i32)))))).toNat : Int))),(IntKind.wrap .u8 (((BitVec.ofInt (IntKind.bits .u8) (128:Int) ||| BitVec.ofInt (IntKind.bits .u8) ((IntKind.wrap .u8 (((BitVec.ofInt (IntKind.bits .u8) ((IntKind.wrap .u8 (IntKind.wrap .i32 (t26.getD (t28).toNat 0)))) &&& BitVec.ofInt (IntKind.bits .u8) (63:Int)).toNat : Int))))).toNat : Int)))] : List Int))) (.tk T.n) t26 t27 ((IntKind.wrap .i64 (t28 + (1:Int)))) hq0 ⟨(T.n + 1),(T.n :: Tok.drop b8k T.l)⟩)))) ∧
 ((decide ((IntKind.wrap .u32 (IntKind.wrap .i32 (t26.getD (t28).toNat 0))) ≤ (2047:Int))) = false → (((decide ((IntKind.wrap .u32 (IntKind.wrap .i32 (t26.getD (t28).toNat 0))) < (55296:Int))) = true → (((decide ((IntKind.wrap .u32 (IntKind.wrap .i32 (t26.getD (t28).toNat 0))) < (55296:Int))) = true → (0 ≤ (12:Int) ∧ (0 ≤ (6:Int) ∧ (Tok.own b8k T.l ∧ ((b8).length + (([(IntKind.wrap .u8 (((BitVec.ofInt (IntKind.bits .u8) (224:Int) ||| BitVec.ofInt (IntKind.bits .u8) ((IntKind.wrap .u8 (Int.fdiv (IntKind.wrap .i32 (t26.getD (t28).toNat 0)) (2 ^ min ((12:Int)).toNat (IntKind.bits .i32)))))).toNat : Int))),(IntKind.wrap .u8 (((BitVec.ofInt (IntKind.bits .u8) (128:Int) ||| BitVec.ofInt (IntKind.bits .u8) ((IntKind.wrap .u8 (((BitVec.ofInt (IntKind.bits .u8) ((IntKind.wrap .u8 (Int.fdiv (IntKind.wrap .i32 (t26.getD (t28).toNat 0)) (2 ^ min ((6:Int)).toNat (IntKind.bits .i32))))) &&& BitVec.ofInt (IntKind.bits .u8) (63:Int)).toNat : Int))))).toNat : Int))),(IntKind.wrap .u8 (((BitVec.ofInt (IntKind.bits .u8) (128:Int) ||| BitVec.ofInt (IntKind.bits .u8) ((IntKind.wrap .u8 (((BitVec.ofInt (IntKind.bits .u8) ((IntKind.wrap .u8 (IntKind.wrap .i32 (t26.getD (t28).toNat 0)))) &&& BitVec.ofInt (IntKind.bits .u8) (63:Int)).toNat : Int))))).toNat : Int)))] : List Int)).length) * 1 ≤ room ∧ k0 (S12_0 ((b8 ++ ([(IntKind.wrap .u8 (((BitVec.ofInt (IntKind.bits .u8) (224:Int) ||| BitVec.ofInt (IntKind.bits .u8) ((IntKind.wrap .u8 (Int.fdiv (IntKind.wrap .i32 (t26.getD (t28).toNat 0)) (2 ^ min ((12:Int)).toNat (IntKind.bits .i32)))))).toNat : Int))),(IntKind.wrap .u8 (((BitVec.ofInt (IntKind.bits .u8) (128:Int) ||| BitVec.ofInt (IntKind.bits .u8) ((IntKind.wrap .u8 (((BitVec.ofInt (IntKind.bits .u8) ((IntKind.wrap .u8 (Int.fdiv (IntKind.wrap .i32 (t26.getD (t28).toNat 0)) (2 ^ min ((6:Int)).toNat (IntKind.bits .i32))))) &&& BitVec.ofInt (IntKind.bits .u8) (63:Int)).toNat : Int))))).toNat : Int))),(IntKind.wrap .u8 (((BitVec.ofInt (IntKind.bits .u8) (128:Int) ||| BitVec.ofInt (IntKind.bits .u8) ((IntKind.wrap .u8 (((BitVec.ofInt (IntKind.bits .u8) ((IntKind.wrap .u8 (IntKind.wrap .i32 (t26.getD (t28).toNat 0)))) &&& BitVec.ofInt (IntKind.bits .u8) (63:Int)).toNat : Int))))).toNat : Int)))] : List Int))) (.tk T.n) t26 t27 ((IntKind.wrap .i64 (t28 + (1:Int)))) hq0 ⟨(T.n + 1),(T.n :: Tok.drop b8k T.l)⟩))))) ∧
 ((decide ((IntKind.wrap .u32 (IntKind.wrap .i32 (t26.getD (t28).toNat 0))) < (55296:Int))) = false → (((decide ((IntKind.wrap .u32 (IntKind.wrap .i32 (t26.getD (t28).toNat 0))) > (65535:Int))) = true → (((decide ((IntKind.wrap .u32 (IntKind.wrap .i32 (t26.getD (t28).toNat 0))) ≤ (1114111:Int))) = true → (0 ≤ (18:Int) ∧ (0 ≤ (12:Int) ∧ (0 ≤ (6:Int) ∧ (Tok.own b8k T.l ∧ ((b8).length + (([(IntKind.wrap .u8 (((BitVec.ofInt (IntKind.bits .u8) (240:Int) ||| BitVec.ofInt (IntKind.bits .u8) ((IntKind.wrap .u8 (Int.fdiv (IntKind.wrap .i32 (t26.getD (t28).toNat 0)) (2 ^ min ((18:Int)).toNat (IntKind.bits .i32)))))).toNat : Int))),(IntKind.wrap .u8 (((BitVec.ofInt (IntKind.bits .u8) (128:Int) ||| BitVec.ofInt (IntKind.bits .u8) ((IntKind.wrap .u8 (((BitVec.ofInt (IntKind.bits .u8) ((IntKind.wrap .u8 (Int.fdiv (IntKind.wrap .i32 (t26.getD (t28).toNat 0)) (2 ^ min ((12:Int)).toNat (IntKind.bits .i32))))) &&& BitVec.ofInt (IntKind.bits .u8) (63:Int)).toNat : Int))))).toNat : Int))),(IntKind.wrap .u8 (((BitVec.ofInt (IntKind.bits .u8) (128:Int) ||| BitVec.ofInt (IntKind.bits .u8) ((IntKind.wrap .u8 (((BitVec.ofInt (IntKind.bits .u8) ((IntKind.wrap .u8 (Int.fdiv (IntKind.wrap .i32 (t26.getD (t28).toNat 0)) (2 ^ min ((6:Int)).toNat (IntKind.bits .i32))))) &&& BitVec.ofInt (IntKind.bits .u8) (63:Int)).toNat : Int))))).toNat : Int))),(IntKind.wrap .u8 (((BitVec.ofInt (IntKind.bits .u8) (128:Int) ||| BitVec.ofInt (IntKind.bits .u8) ((IntKind.wrap .u8 (((BitVec.ofInt (IntKind.bits .u8) ((IntKind.wrap .u8 (IntKind.wrap .i32 (t26.getD (t28).toNat 0)))) &&& BitVec.ofInt (IntKind.bits .u8) (63:Int)).toNat : Int))))).toNat : Int)))] : List Int)).length) * 1 ≤ room ∧ k0 (S12_0 ((b8 ++ ([(IntKind.wrap .u8 (((BitVec.ofInt (IntKind.bits .u8) (240:Int) ||| BitVec.ofInt (IntKind.bits .u8) ((IntKind.wrap .u8 (Int.fdiv (IntKind.wrap .i32 (t26.getD (t28).toNat 0)) (2 ^ min ((18:Int)).toNat (IntKind.bits .i32)))))).toNat : Int))),(IntKind.wrap .u8 (((BitVec.ofInt (IntKind.bits .u8) (128:Int) ||| BitVec.ofInt (IntKind.bits .u8) ((IntKind.wrap .u8 (((BitVec.ofInt (IntKind.bits .u8) ((IntKind.wrap .u8 (Int.fdiv (IntKind.wrap .i32 (t26.getD (t28).toNat 0)) (2 ^ min ((12:Int)).toNat (IntKind.bits .i32))))) &&& BitVec.ofInt (IntKind.bits .u8) (63:Int)).toNat : Int))))).toNat : Int))),(IntKind.wrap .u8 (((BitVec.ofInt (IntKind.bits .u8) (128:Int) ||| BitVec.ofInt (IntKind.bits .u8) ((IntKind.wrap .u8 (((BitVec.ofInt (IntKind.bits .u8) ((IntKind.wrap .u8 (Int.fdiv (IntKind.wrap .i32 (t26.getD (t28).toNat 0)) (2 ^ min ((6:Int)).toNat (IntKind.bits .i32))))) &&& BitVec.ofInt (IntKind.bits .u8) (63:Int)).toNat : Int))))).toNat : Int))),(IntKind.wrap .u8 (((BitVec.ofInt (IntKind.bits .u8) (128:Int) ||| BitVec.ofInt (IntKind.bits .u8) ((IntKind.wrap .u8 (((BitVec.ofInt (IntKind.bits .u8) ((IntKind.wrap .u8 (IntKind.wrap .i32 (t26.getD (t28).toNat 0)))) &&& BitVec.ofInt (IntKind.bits .u8) (63:Int)).toNat : Int))))).toNat : Int)))] : List Int))) (.tk T.n) t26 t27 ((IntKind.wrap .i64 (t28 + (1:Int)))) hq0 ⟨(T.n + 1),(T.n :: Tok.drop b8k T.l)⟩)))))) ∧
 ((decide ((IntKind.wrap .u32 (IntKind.wrap .i32 (t26.getD (t28).toNat 0))) ≤ (1114111:Int))) = false → (Tok.own b8k T.l ∧ ((b8).length + (([(239:Int),(191:Int),(189:Int)] : List Int)).length) * 1 ≤ room ∧ k0 (S12_0 ((b8 ++ ([(239:Int),(191:Int),(189:Int)] : List Int))) (.tk T.n) t26 t27 ((IntKind.wrap .i64 (t28 + (1:Int)))) hq0 ⟨(T.n + 1),(T.n :: Tok.drop b8k T.l)⟩))))) ∧ ((decide ((IntKind.wrap .u32 (IntKind.wrap .i32 (t26.getD (t28).toNat 0))) > (65535:Int))) = false → (Tok.own b8k T.l ∧ ((b8).length + (([(239:Int),(191:Int),(189:Int)] : List Int)).length) * 1 ≤ room ∧ k0 (S12_0 ((b8 ++ ([(239:Int),(191:Int),(189:Int)] : List Int))) (.tk T.n) t26 t27 ((IntKind.wrap .i64 (t28 + (1:Int)))) hq0 ⟨(T.n + 1),(T.n :: Tok.drop b8k T.l)⟩))))))) ∧
 ((decide ((IntKind.wrap .u32 (IntKind.wrap .i32 (t26.getD (t28).toNat 0))) < (55296:Int))) = false → (((decide ((57343:Int) < (IntKind.wrap .u32 (IntKind.wrap .i32 (t26.getD (t28).toNat 0))))) = true → (((decide ((IntKind.wrap .u32 (IntKind.wrap .i32 (t26.getD (t28).toNat 0))) ≤ (65535:Int))) = true → (0 ≤ (12:Int) ∧ (0 ≤ (6:Int) ∧ (Tok.own b8k T.l ∧ ((b8).length + (([(IntKind.wrap .u8 (((BitVec.ofInt (IntKind.bits .u8) (224:Int) ||| BitVec.ofInt (IntKind.bits .u8) ((IntKind.wrap .u8 (Int.fdiv (IntKind.wrap .i32 (t26.getD (t28).toNat 0)) (2 ^ min ((12:Int)).toNat (IntKind.bits .i32)))))).toNat : Int))),(IntKind.wrap .u8 (((BitVec.ofInt (IntKind.bits .u8) (128:Int) ||| BitVec.ofInt (IntKind.bits .u8) ((IntKind.wrap .u8 (((BitVec.ofInt (IntKind.bits .u8) ((IntKind.wrap .u8 (Int.fdiv (IntKind.wrap .i32 (t26.getD (t28).toNat 0)) (2 ^ min ((6:Int)).toNat (IntKind.bits .i32))))) &&& BitVec.ofInt (IntKind.bits .u8) (63:Int)).toNat : Int))))).toNat : Int))),(IntKind.wrap .u8 (((BitVec.ofInt (IntKind.bits .u8) (128:Int) ||| BitVec.ofInt (IntKind.bits .u8) ((IntKind.wrap .u8 (((BitVec.ofInt (IntKind.bits .u8) ((IntKind.wrap .u8 (IntKind.wrap .i32 (t26.getD (t28).toNat 0)))) &&& BitVec.ofInt (IntKind.bits .u8) (63:Int)).toNat : Int))))).toNat : Int)))] : List Int)).length) * 1 ≤ room ∧ k0 (S12_0 ((b8 ++ ([(IntKind.wrap .u8 (((BitVec.ofInt (IntKind.bits .u8) (224:Int) ||| BitVec.ofInt (IntKind.bits .u8) ((IntKind.wrap .u8 (Int.fdiv (IntKind.wrap .i32 (t26.getD (t28).toNat 0)) (2 ^ min ((12:Int)).toNat (IntKind.bits .i32)))))).toNat : Int))),(IntKind.wrap .u8 (((BitVec.ofInt (IntKind.bits .u8) (128:Int) ||| BitVec.ofInt (IntKind.bits .u8) ((IntKind.wrap .u8 (((BitVec.ofInt (IntKind.bits .u8) ((IntKind.wrap .u8 (Int.fdiv (IntKind.wrap .i32 (t26.getD (t28).toNat 0)) (2 ^ min ((6:Int)).toNat (IntKind.bits .i32))))) &&& BitVec.ofInt (IntKind.bits .u8) (63:Int)).toNat : Int))))).toNat : Int))),(IntKind.wrap .u8 (((BitVec.ofInt (IntKind.bits .u8) (128:Int) ||| BitVec.ofInt (IntKind.bits .u8) ((IntKind.wrap .u8 (((BitVec.ofInt (IntKind.bits .u8) ((IntKind.wrap .u8 (IntKind.wrap .i32 (t26.getD (t28).toNat 0)))) &&& BitVec.ofInt (IntKind.bits .u8) (63:Int)).toNat : Int))))).toNat : Int)))] : List Int))) (.tk T.n) t26 t27 ((IntKind.wrap .i64 (t28 + (1:Int)))) hq0 ⟨(T.n + 1),(T.n :: Tok.drop b8k T.l)⟩))))) ∧
 ((decide ((IntKind.wrap .u32 (IntKind.wrap .i32 (t26.getD (t28).toNat 0))) ≤ (65535:Int))) = false → (((decide ((IntKind.wrap .u32 (IntKind.wrap .i32 (t26.getD (t28).toNat 0))) > (65535:Int))) = true → (((decide ((IntKind.wrap .u32 (IntKind.wrap .i32 (t26.getD (t28).toNat 0))) ≤ (1114111:Int))) = true → (0 ≤ (18:Int) ∧ (0 ≤ (12:Int) ∧ (0 ≤ (6:Int) ∧ (Tok.own b8k T.l ∧ ((b8).length + (([(IntKind.wrap .u8 (((BitVec.ofInt (IntKind.bits .u8) (240:Int) ||| BitVec.ofInt (IntKind.bits .u8) ((IntKind.wrap .u8 (Int.fdiv (IntKind.wrap .i32 (t26.getD (t28).toNat 0)) (2 ^ min ((18:Int)).toNat (IntKind.bits .i32)))))).toNat : Int))),(IntKind.wrap .u8 (((BitVec.ofInt (IntKind.bits .u8) (128:Int) ||| BitVec.ofInt (IntKind.bits .u8) ((IntKind.wrap .u8 (((BitVec.ofInt (IntKind.bits .u8) ((IntKind.wrap .u8 (Int.fdiv (IntKind.wrap .i32 (t26.getD (t28).toNat 0)) (2 ^ min ((12:Int)).toNat (IntKind.bits .i32))))) &&& BitVec.ofInt (IntKind.bits .u8) (63:Int)).toNat : Int))))).toNat : Int))),(IntKind.wrap .u8 (((BitVec.ofInt (IntKind.bits .u8) (128:Int) ||| BitVec.ofInt (IntKind.bits .u8) ((IntKind.wrap .u8 (((BitVec.ofInt (IntKind.bits .u8) ((IntKind.wrap .u8 (Int.fdiv (IntKind.wrap .i32 (t26.getD (t28).toNat 0)) (2 ^ min ((6:Int)).toNat (IntKind.bits .i32))))) &&& BitVec.ofInt (IntKind.bits .u8) (63:Int)).toNat : Int))))).toNat : Int))),(IntKind.wrap .u8 (((BitVec.ofInt (IntKind.bits .u8) (128:Int) ||| BitVec.ofInt (IntKind.bits .u8) ((IntKind.wrap .u8 (((BitVec.ofInt (IntKind.bits .u8) ((IntKind.wrap .u8 (IntKind.wrap .i32 (t26.getD (t28).toNat 0)))) &&& BitVec.ofInt (IntKind.bits .u8) (63:Int)).toNat : Int))))).toNat : Int)))] : List Int)).length) * 1 ≤ room ∧ k0 (S12_0 ((b8 ++ ([(IntKind.wrap .u8 (((BitVec.ofInt (IntKind.bits .u8) (240:Int) ||| BitVec.ofInt (IntKind.bits .u8) ((IntKind.wrap .u8 (Int.fdiv (IntKind.wrap .i32 (t26.getD (t28).toNat 0)) (2 ^ min ((18:Int)).toNat (IntKind.bits .i32)))))).toNat : Int))),(IntKind.wrap .u8 (((BitVec.ofInt (IntKind.bits .u8) (128:Int) ||| BitVec.ofInt (IntKind.bits .u8) ((IntKind.wrap .u8 (((BitVec.ofInt (IntKind.bits .u8) ((IntKind.wrap .u8 (Int.fdiv (IntKind.wrap .i32 (t26.getD (t28).toNat 0)) (2 ^ min ((12:Int)).toNat (IntKind.bits .i32))))) &&& BitVec.ofInt (IntKind.bits .u8) (63:Int)).toNat : Int))))).toNat : Int))),(IntKind.wrap .u8 (((BitVec.ofInt (IntKind.bits .u8) (128:Int) ||| BitVec.ofInt (IntKind.bits .u8) ((IntKind.wrap .u8 (((BitVec.ofInt (IntKind.bits .u8) ((IntKind.wrap .u8 (Int.fdiv (IntKind.wrap .i32 (t26.getD (t28).toNat 0)) (2 ^ min ((6:Int)).toNat (IntKind.bits .i32))))) &&& BitVec.ofInt (IntKind.bits .u8) (63:Int)).toNat : Int))))).toNat : Int))),(IntKind.wrap .u8 (((BitVec.ofInt (IntKind.bits .u8) (128:Int) ||| BitVec.ofInt (IntKind.bits .u8) ((IntKind.wrap .u8 (((BitVec.ofInt (IntKind.bits .u8) ((IntKind.wrap .u8 (IntKind.wrap .i32 (t26.getD (t28).toNat 0)))) &&& BitVec.ofInt (IntKind.bits .u8) (63:Int)).toNat : Int))))).toNat : Int)))] : List Int))) (.tk T.n) t26 t27 ((IntKind.wrap .i64 (t28 + (1:Int)))) hq0 ⟨(T.n + 1),(T.n :: Tok.drop b8k T.l)⟩)))))) ∧
 ((decide ((IntKind.wrap .u32 (IntKind.wrap .i32 (t26.getD (t28).toNat 0))) ≤ (1114111:Int))) = false → (Tok.own b8k T.l ∧ ((b8).length + (([(239:Int),(191:Int),(189:Int)] : List Int)).length) * 1 ≤ room ∧ k0 (S12_0 ((b8 ++ ([(239:Int),(191:Int),(189:Int)] : List Int))) (.tk T.n) t26 t27 ((IntKind.wrap .i64 (t28 + (1:Int)))) hq0 ⟨(T.n + 1),(T.n :: Tok.drop b8k T.l)⟩))))) ∧ ((decide ((IntKind.wrap .u32 (IntKind.wrap .i32 (t26.getD (t28).toNat 0))) > (65535:Int))) = false → (Tok.own b8k T.l ∧ ((b8).length + (([(239:Int),(191:Int),(189:Int)] : List Int)).length) * 1 ≤ room ∧ k0 (S12_0 ((b8 ++ ([(239:Int),(191:Int),(189:Int)] : List Int))) (.tk T.n) t26 t27 ((IntKind.wrap .i64 (t28 + (1:Int)))) hq0 ⟨(T.n + 1),(T.n :: Tok.drop b8k T.l)⟩))))))) ∧ ((decide ((57343:Int) < (IntKind.wrap .u32 (IntKind.wrap .i32 (t26.getD (t28).toNat 0))))) = false → (((decide ((IntKind.wrap .u32 (IntKind.wrap .i32 (t26.getD (t28).toNat 0))) > (65535:Int))) = true → (((decide ((IntKind.wrap .u32 (IntKind.wrap .i32 (t26.getD (t28).toNat 0))) ≤ (1114111:Int))) = true → (0 ≤ (18:Int) ∧ (0 ≤ (12:Int) ∧ (0 ≤ (6:Int) ∧ (Tok.own b8k T.l ∧ ((b8).length + (([(IntKind.wrap .u8 (((BitVec.ofInt (IntKind.bits .u8) (240:Int) ||| BitVec.ofInt (IntKind.bits .u8) ((IntKind.wrap .u8 (Int.fdiv (IntKind.wrap .i32 (t26.getD (t28).toNat 0)) (2 ^ min ((18:Int)).toNat (IntKind.bits .i32)))))).toNat : Int))),(IntKind.wrap .u8 (((BitVec.ofInt (IntKind.bits .u8) (128:Int) ||| BitVec.ofInt (IntKind.bits .u8) ((IntKind.wrap .u8 (((BitVec.ofInt (IntKind.bits .u8) ((IntKind.wrap .u8 (Int.fdiv (IntKind.wrap .i32 (t26.getD (t28).toNat 0)) (2 ^ min ((12:Int)).toNat (IntKind.bits .i32))))) &&& BitVec.ofInt (IntKind.bits .u8) (63:Int)).toNat : Int))))).toNat : Int))),(IntKind.wrap .u8 (((BitVec.ofInt (IntKind.bits .u8) (128:Int) ||| BitVec.ofInt (IntKind.bits .u8) ((IntKind.wrap .u8 (((BitVec.ofInt (IntKind.bits .u8) ((IntKind.wrap .u8 (Int.fdiv (IntKind.wrap .i32 (t26.getD (t28).toNat 0)) (2 ^ min ((6:Int)).toNat (IntKind.bits .i32))))) &&& BitVec.ofInt (IntKind.bits .u8) (63:Int)).toNat : Int))))).toNat : Int))),(IntKind.wrap .u8 (((BitVec.ofInt (IntKind.bits .u8) (128:Int) ||| BitVec.ofInt (IntKind.bits .u8) ((IntKind.wrap .u8 (((BitVec.ofInt (IntKind.bits .u8) ((IntKind.wrap .u8 (IntKind.wrap .i32 (t26.getD (t28).toNat 0)))) &&& BitVec.ofInt (IntKind.bits .u8) (63:Int)).toNat : Int))))).toNat : Int)))] : List Int)).length) * 1 ≤ room ∧ k0 (S12_0 ((b8 ++ ([(IntKind.wrap .u8 (((BitVec.ofInt (IntKind.bits .u8) (240:Int) ||| BitVec.ofInt (IntKind.bits .u8) ((IntKind.wrap .u8 (Int.fdiv (IntKind.wrap .i32 (t26.getD (t28).toNat 0)) (2 ^ min ((18:Int)).toNat (IntKind.bits .i32)))))).toNat : Int))),(IntKind.wrap .u8 (((BitVec.ofInt (IntKind.bits .u8) (128:Int) ||| BitVec.ofInt (IntKind.bits .u8) ((IntKind.wrap .u8 (((BitVec.ofInt (IntKind.bits .u8) ((IntKind.wrap .u8 (Int.fdiv (IntKind.wrap .i32 (t26.getD (t28).toNat 0)) (2 ^ min ((12:Int)).toNat (IntKind.bits .i32))))) &&& BitVec.ofInt (IntKind.bits .u8) (63:Int)).toNat : Int))))).toNat : Int))),(IntKind.wrap .u8 (((BitVec.ofInt (IntKind.bits .u8) (128:Int) ||| BitVec.ofInt (IntKind.bits .u8) ((IntKind.wrap .u8 (((BitVec.ofInt (IntKind.bits .u8) ((IntKind.wrap .u8 (Int.fdiv (IntKind.wrap .i32 (t26.getD (t28).toNat 0)) (2 ^ min ((6:Int)).toNat (IntKind.bits .i32))))) &&& BitVec.ofInt (IntKind.bits .u8) (63:Int)).toNat : Int))))).toNat : Int))),(IntKind.wrap .u8 (((BitVec.ofInt (IntKind.bits .u8) (128:Int) ||| BitVec.ofInt (IntKind.bits .u8) ((IntKind.wrap .u8 (((BitVec.ofInt (IntKind.bits .u8) ((IntKind.wrap .u8 (IntKind.wrap .i32 (t26.getD (t28).toNat 0)))) &&& BitVec.ofInt (IntKind.bits .u8) (63:Int)).toNat : Int))))).toNat : Int)))] : List Int))) (.tk T.n) t26 t27 ((IntKind.wrap .i64 (t28 + (1:Int)))) hq0 ⟨(T.n + 1),(T.n :: Tok.drop b8k T.l)⟩)))))) ∧
 ((decide ((IntKind.wrap .u32 (IntKind.wrap .i32 (t26.getD (t28).toNat 0))) ≤ (1114111:Int))) = false → (Tok.own b8k T.l ∧ ((b8).length + (([(239:Int),(191:Int),(189:Int)] : List Int)).length) * 1 ≤ room ∧ k0 (S12_0 ((b8 ++ ([(239:Int),(191:Int),(189:Int)] : List Int))) (.tk T.n) t26 t27 ((IntKind.wrap .i64 (t28 + (1:Int)))) hq0 ⟨(T.n + 1),(T.n :: Tok.drop b8k T.l)⟩))))) ∧ ((decide ((IntKind.wrap .u32 (IntKind.wrap .i32 (t26.getD (t28).toNat 0))) > (65535:Int))) = false → (Tok.own b8k T.l ∧ ((b8).length + (([(239:Int),(191:Int),(189:Int)] : List Int)).length) * 1 ≤ room ∧ k0 (S12_0 ((b8 ++ ([(239:Int),(191:Int),(189:Int)] : List Int))) (.tk T.n) t26 t27 ((IntKind.wrap .i64 (t28 + (1:Int)))) hq0 ⟨(T.n + 1),(T.n :: Tok.drop b8k T.l)⟩)))))))))))))) ∧
 ((decide (t28 < t27)) = false → R ((ofBytes b8),true) hq0))) :
  B12_0 (loopQ M12_0 k0 (Q12_0 R)) (S12_0 b8 b8k t26 t27 t28 hq0 T) := Eq.mp (by kernel_rfl) h
end Go.Proofs.YtdcljlafookliaaDoor.AB

namespace Go.Proofs.YtdcljlafookliaaDoor.AB
open Go

variable {X X' : XH} {h : Nat} {o : OD} {bs : List Bl}

abbrev SR (k r : Int) : Int := Int.fdiv r (2 ^ min k.toNat (IntKind.bits .i32))
abbrev LD (c k r : Int) : Int := IntKind.wrap .u8 (((BitVec.ofInt (IntKind.bits .u8) c ||| BitVec.ofInt (IntKind.bits .u8) (IntKind.wrap .u8 (SR k r))).toNat : Int))
abbrev CT (y : Int) : Int := IntKind.wrap .u8 (((BitVec.ofInt (IntKind.bits .u8) (128:Int) ||| BitVec.ofInt (IntKind.bits .u8) (IntKind.wrap .u8 (((BitVec.ofInt (IntKind.bits .u8) (IntKind.wrap .u8 y) &&& BitVec.ofInt (IntKind.bits .u8) (63:Int)).toNat : Int)))).toNat : Int))

theorem wrapu8 (y : Int) : IntKind.wrap .u8 y = y % 256 := by simp [IntKind.wrap,IntKind.bits,IntKind.signed]
theorem wrapu32 (y : Int) : IntKind.wrap .u32 y = y % 4294967296 := by simp [IntKind.wrap,IntKind.bits,IntKind.signed]

theorem ct_dec : ∀ y : Fin 256,IntKind.wrap .u8 (((BitVec.ofInt (IntKind.bits .u8) (128:Int) ||| BitVec.ofInt (IntKind.bits .u8) (IntKind.wrap .u8 (((BitVec.ofInt (IntKind.bits .u8) ((y.val : Nat) : Int) &&& BitVec.ofInt (IntKind.bits .u8) (63:Int)).toNat : Int)))).toNat : Int)) = 128 + ((y.val : Nat) : Int) % 64 := by decide +kernel
theorem ld_dec2 : ∀ x : Fin 32,IntKind.wrap .u8 (((BitVec.ofInt (IntKind.bits .u8) (192:Int) ||| BitVec.ofInt (IntKind.bits .u8) ((x.val : Nat) : Int)).toNat : Int)) = 192 + ((x.val : Nat) : Int) := by decide +kernel
theorem ld_dec3 : ∀ x : Fin 16,IntKind.wrap .u8 (((BitVec.ofInt (IntKind.bits .u8) (224:Int) ||| BitVec.ofInt (IntKind.bits .u8) ((x.val : Nat) : Int)).toNat : Int)) = 224 + ((x.val : Nat) : Int) := by decide +kernel
theorem ld_dec4 : ∀ x : Fin 8,IntKind.wrap .u8 (((BitVec.ofInt (IntKind.bits .u8) (240:Int) ||| BitVec.ofInt (IntKind.bits .u8) ((x.val : Nat) : Int)).toNat : Int)) = 240 + ((x.val : Nat) : Int) := by decide +kernel

theorem ct_eq (y : Int) : CT y = 128 + y % 64 := by
 have h1 : 0 ≤ y % 256 ∧ y % 256 < 256 := by omega
 have := ct_dec ⟨(y % 256).toNat,by omega⟩
 have e : (((y % 256).toNat : Nat) : Int) = y % 256 := by omega
 simp only [e] at this
 unfold CT
 rw [wrapu8 y,this]
 omega

theorem sr6 {r : Int} (h : 0 ≤ r) : SR 6 r = r / 64 := by
 have : (2:Int) ^ min (6:Int).toNat (IntKind.bits .i32) = 64 := by decide
 unfold SR; rw [this,Int.fdiv_eq_ediv_of_nonneg _ (by omega)]
theorem sr12 {r : Int} (h : 0 ≤ r) : SR 12 r = r / 4096 := by
 have : (2:Int) ^ min (12:Int).toNat (IntKind.bits .i32) = 4096 := by decide
 unfold SR; rw [this,Int.fdiv_eq_ediv_of_nonneg _ (by omega)]
theorem sr18 {r : Int} (h : 0 ≤ r) : SR 18 r = r / 262144 := by
 have : (2:Int) ^ min (18:Int).toNat (IntKind.bits .i32) = 262144 := by decide
 unfold SR; rw [this,Int.fdiv_eq_ediv_of_nonneg _ (by omega)]

theorem enc1 {r : Int} (h : -2147483648 ≤ r ∧ r ≤ 2147483647) (e : IntKind.wrap .u32 r ≤ 127) : [IntKind.wrap .u8 r] = Lib.encodeRuneZ r := by
 rw [wrapu32] at e
 rw [Lib.encodeRuneZ_one (by omega) (by omega),wrapu8,Int.emod_eq_of_lt (by omega) (by omega)]

theorem enc2 {r : Int} (h : -2147483648 ≤ r ∧ r ≤ 2147483647) (e0 : ¬ IntKind.wrap .u32 r ≤ 127) (e : IntKind.wrap .u32 r ≤ 2047) : [LD 192 6 r,CT r] = Lib.encodeRuneZ r := by
 rw [wrapu32] at e e0
 have hr : 0 ≤ r := by omega
 rw [Lib.encodeRuneZ_two (by omega) (by omega),ct_eq]
 have := ld_dec2 ⟨(r / 64).toNat,by omega⟩
 have e1 : (((r / 64).toNat : Nat) : Int) = r / 64 := by omega
 simp only [e1] at this
 unfold LD
 rw [sr6 hr,wrapu8 (r / 64),Int.emod_eq_of_lt (by omega) (by omega),this]

theorem enc3 {r : Int} (h : -2147483648 ≤ r ∧ r ≤ 2147483647) (e0 : ¬ IntKind.wrap .u32 r ≤ 2047) (e : IntKind.wrap .u32 r < 55296 ∨ (57343 < IntKind.wrap .u32 r ∧ IntKind.wrap .u32 r ≤ 65535)) : [LD 224 12 r,CT (SR 6 r),CT r] = Lib.encodeRuneZ r := by
 rw [wrapu32] at e e0
 have hr : 0 ≤ r := by omega
 rw [Lib.encodeRuneZ_three (by omega),ct_eq,ct_eq,sr6 hr]
 have := ld_dec3 ⟨(r / 4096).toNat,by omega⟩
 have e1 : (((r / 4096).toNat : Nat) : Int) = r / 4096 := by omega
 simp only [e1] at this
 unfold LD
 rw [sr12 hr,wrapu8 (r / 4096),Int.emod_eq_of_lt (by omega) (by omega),this]

theorem enc4 {r : Int} (h : -2147483648 ≤ r ∧ r ≤ 2147483647) (e0 : IntKind.wrap .u32 r > 65535) (e : IntKind.wrap .u32 r ≤ 1114111) : [LD 240 18 r,CT (SR 12 r),CT (SR 6 r),CT r] = Lib.encodeRuneZ r := by
 rw [wrapu32] at e e0
 have hr : 0 ≤ r := by omega
 rw [Lib.encodeRuneZ_four (by omega) (by omega),ct_eq,ct_eq,ct_eq,sr6 hr,sr12 hr]
 have := ld_dec4 ⟨(r / 262144).toNat,by omega⟩
 have e1 : (((r / 262144).toNat : Nat) : Int) = r / 262144 := by omega
 simp only [e1] at this
 unfold LD
 rw [sr18 hr,wrapu8 (r / 262144),Int.emod_eq_of_lt (by omega) (by omega),this]

theorem encB {r : Int} (h : -2147483648 ≤ r ∧ r ≤ 2147483647) (e : ¬ IntKind.wrap .u32 r ≤ 2047) (e0 : ¬ (IntKind.wrap .u32 r < 55296 ∨ (57343 < IntKind.wrap .u32 r ∧ IntKind.wrap .u32 r ≤ 65535))) (e1 : ¬ (IntKind.wrap .u32 r > 65535 ∧ IntKind.wrap .u32 r ≤ 1114111)) : [(239:Int),191,189] = Lib.encodeRuneZ r := by
 rw [wrapu32] at e e0 e1
 rw [Lib.encodeRuneZ_bad (by omega)]

theorem wrapi32_bd (x : Int) : -2147483648 ≤ IntKind.wrap .i32 x ∧ IntKind.wrap .i32 x ≤ 2147483647 := by
 have e : IntKind.wrap .i32 x = (if 2147483648 ≤ x % 4294967296 then x % 4294967296 - 4294967296 else x % 4294967296) := by
  simp [IntKind.wrap,IntKind.bits,IntKind.signed]
 rw [e]; split <;> omega

def textTo (l : List Int) (k : Nat) : List Int := (l.take k).flatMap fun v => Lib.encodeRuneZ (IntKind.wrap .i32 v)

theorem textTo_succ {l : List Int} {k : Nat} (hk : k < l.length) : textTo l (k + 1) = textTo l k ++ Lib.encodeRuneZ (IntKind.wrap .i32 (l.getD k 0)) := by
 unfold textTo
 rw [List.take_succ_eq_append_getElem hk,List.flatMap_append]
 simp [List.getD,List.getElem?_eq_getElem hk]

theorem textTo_len (l : List Int) : ∀ k,(textTo l k).length ≤ 4 * k
 | 0 => by simp [textTo]
 | k + 1 => by
  have ih := textTo_len l k
  by_cases hk : k < l.length
  ·rw [textTo_succ hk,List.length_append]
   have := (Lib.encodeRuneZ_length (IntKind.wrap .i32 (l.getD k 0))).2
   omega
  ·have : textTo l (k + 1) = textTo l k := by unfold textTo; rw [List.take_of_length_le (by omega),List.take_of_length_le (by omega)]
   rw [this]; omega

def textR (o : OD) (bs : List Bl) (a : Int) : List UInt8 × Bool :=
 match objR o bs a with
 | none => ([],false)
 | some s => if s.kind = 4 then (ofBytes (textTo (slotsR o bs a) (slotsR o bs a).length),true) else ([],false)

theorem textR_none {a : Int} (e : objR o bs a = none) : textR o bs a = ([],false) := by unfold textR; rw [e]
theorem textR_some {a : Int} {s : Shp} (e : objR o bs a = some s) : textR o bs a = if s.kind = 4 then (ofBytes (textTo (slotsR o bs a) (slotsR o bs a).length),true) else ([],false) := by unfold textR; rw [e]

theorem c12 (r : RepH X h o) (hd : DOK o.d bs) (a : Int) (h0 : 0 ≤ (lenR o bs a).1) (h1 : (lenR o bs a).1 ≤ 1048576) : RC Tryd.prog 12 [.pure .str,.pure .bool] [.ref (some h) cH 0 [],.v (.int .i64 a)] X (textR o bs a) := by
 refine xcOf (X := X12) rfl FN12 (by kernel_rfl) (by decide) (E12 X h a ⟨_,c32 r hd a,fun e => ?_,fun e => ?_⟩)
 ·cases ho : objR o bs a with
  | none => rw [textR_none ho]; exact ⟨rfl,rfl⟩
  | some s => rw [ho] at e; cases e
 cases ho : objR o bs a with
 | none => rw [ho] at e; cases e
 | some s =>
  rw [textR_some ho]
  refine ⟨_,mc_kind s,fun e1 => ?_,fun e1 => ⟨_,c33 r hd a h0 h1,?_⟩⟩
  ·rw [if_neg (by simpa using e1)]; exact ⟨rfl,rfl⟩
  rw [if_pos (by simpa using e1)]
  have hlen : (slotsR o bs a).length ≤ 1048576 := by rw [slotsR_len]; omega
  generalize slotsR o bs a = l at hlen ⊢
  refine Loops.intro (fun q : Nat × Tok × Toks => S12_0 (textTo l q.1) q.2.1 l (l.length : Nat) (q.1 : Nat) X q.2.2) (fun q => q.1 ≤ l.length ∧ q.2.1.own q.2.2.l) (fun q => l.length - q.1) (0,.exact,⟨0,[]⟩) rfl ⟨Nat.zero_le _,trivial⟩ ?_
  rintro ⟨i,k,T⟩ ⟨hi,hk⟩
  have hi : i ≤ l.length := hi
  refine L12_0 (textTo l i) k l (l.length : Nat) (i : Nat) X T ⟨fun e => ?_,fun e => ?_⟩
  ·have e := of_decide_eq_true e
   have hlt : i < l.length := by omega
   have hb := wrapi32_bd (l.getD i 0)
   rw [Int.toNat_natCast]
   refine ⟨by omega,by omega,?_⟩
   have hw : IntKind.wrap .i64 (((i : Nat) : Int) + 1) = ((i + 1 : Nat) : Int) := by rw [wrap64 (by omega) (by omega)]; omega
   rw [hw]
   have hs := textTo_succ hlt
   have hle := textTo_len l i
   have hel := (Lib.encodeRuneZ_length (IntKind.wrap .i32 (l.getD i 0))).2
   generalize IntKind.wrap .i32 (l.getD i 0) = v at hb hs hel ⊢
   have app : ∀ m : List Int,m = Lib.encodeRuneZ v → Tok.own k T.l ∧ ((textTo l i).length + m.length) * 1 ≤ room ∧
     Again (fun q : Nat × Tok × Toks => S12_0 (textTo l q.1) q.2.1 l (l.length : Nat) (q.1 : Nat) X q.2.2) (fun q => q.1 ≤ l.length ∧ q.2.1.own q.2.2.l) (fun q => l.length - q.1) (l.length - i)
      (S12_0 (textTo l i ++ m) (.tk T.n) l (l.length : Nat) ((i + 1 : Nat) : Int) X ⟨T.n + 1,T.n :: Tok.drop k T.l⟩) := by
    rintro m rfl
    refine ⟨hk,?_,?_⟩
    ·show ((textTo l i).length + _) * 1 ≤ 140737488355328
     omega
    ·rw [← hs]
     exact Again.mk (i + 1,.tk T.n,⟨T.n + 1,T.n :: Tok.drop k T.l⟩) rfl ⟨show i + 1 ≤ l.length by omega,show T.n ∈ T.n :: Tok.drop k T.l from List.mem_cons_self ..⟩ (show l.length - (i + 1) < l.length - i by omega)
   refine ⟨fun c1 => app _ (enc1 hb (of_decide_eq_true c1)),fun c1 => ?_⟩
   have c1 := of_decide_eq_false c1
   refine ⟨fun c2 => ⟨by decide,app _ (enc2 hb c1 (of_decide_eq_true c2))⟩,fun c2 => ?_⟩
   have c2 := of_decide_eq_false c2
   refine ⟨fun c3 => ⟨fun _ => ⟨by decide,by decide,app _ (enc3 hb c2 (.inl (of_decide_eq_true c3)))⟩,fun c4 => ?_⟩,fun c3 => ?_⟩
   ·rw [c3] at c4; cases c4
   have c3 := of_decide_eq_false c3
   refine ⟨fun c4 => ⟨fun c5 => ⟨by decide,by decide,app _ (enc3 hb c2 (.inr ⟨of_decide_eq_true c4,of_decide_eq_true c5⟩))⟩,fun c5 => ?_⟩,fun c4 => ?_⟩
   ·have c5 := of_decide_eq_false c5
    refine ⟨fun c6 => ⟨fun c7 => ⟨by decide,by decide,by decide,app _ (enc4 hb (of_decide_eq_true c6) (of_decide_eq_true c7))⟩,fun c7 => ?_⟩,fun c6 => ?_⟩
    ·have c7 := of_decide_eq_false c7
     exact app _ (encB hb c2 (by omega) (by omega))
    ·have c6 := of_decide_eq_false c6
     exact app _ (encB hb c2 (by omega) (by omega))
   ·have c4 := of_decide_eq_false c4
    refine ⟨fun c6 => ⟨fun c7 => ⟨by decide,by decide,by decide,app _ (enc4 hb (of_decide_eq_true c6) (of_decide_eq_true c7))⟩,fun c7 => ?_⟩,fun c6 => ?_⟩
    ·have c7 := of_decide_eq_false c7
     exact app _ (encB hb c2 (by omega) (by omega))
    ·have c6 := of_decide_eq_false c6
     exact app _ (encB hb c2 (by omega) (by omega))
  ·have e := of_decide_eq_false e
   have hge : i = l.length := by omega
   rw [hge]; exact ⟨rfl,rfl⟩

end Go.Proofs.YtdcljlafookliaaDoor.AB

namespace Go.Proofs.YtdcljlafookliaaDoor.AB
open Go Go.Proofs Go.RowKit Go.Shelf

def validL_ren : Go.Shelf.Ren :=
 {
 f := fun x =>
  match x with
  | 196 => 29
  | 259 => 47
  | n => n,
 t := fun x =>
  match x with
  | 9 => 9
  | 4 => 4
  | 3 => 3
  | 5 => 5
  | 12 => 12
  | 119 => 100
  | 0 => 0
  | 46 => 104
  | 139 => 103
  | 138 => 102
  | 53 => 117
  | n => n,
 g := fun x =>
  match x with
  | 3 => 0
  | 4 => 1
  | n => n }

set_option maxRecDepth 100000 in
theorem validL : Lays.n196 Tryd.prog validL_ren :=
 { mixed := by kernel_rfl,f196 := Eq.trans Tryd.func29 (congrArg some (by kernel_rfl)),f259 := Eq.trans Tryd.func47 (congrArg some (by kernel_rfl)),t0 := Tryd.underlying0,a0 := Tryd.isAgg0,z0 := Tryd.sizeOf0,v0 := Tryd.zeroValue0,t3 := Tryd.underlying3,a3 := Tryd.isAgg3,z3 := Tryd.sizeOf3,v3 := Tryd.zeroValue3,t4 := Tryd.underlying4,a4 := Tryd.isAgg4,z4 := Tryd.sizeOf4,v4 := Tryd.zeroValue4,t5 := Tryd.underlying5,a5 := Tryd.isAgg5,z5 := Tryd.sizeOf5,v5 := Tryd.zeroValue5,t9 := Tryd.underlying9,a9 := Tryd.isAgg9,z9 := Tryd.sizeOf9,v9 := Tryd.zeroValue9,t12 := Tryd.underlying12,a12 := Tryd.isAgg12,z12 := Tryd.sizeOf12,v12 := Tryd.zeroValue12,t46 := Tryd.underlying104,a46 := Tryd.isAgg104,z46 := Tryd.sizeOf104,v46 := Tryd.zeroValue104,t53 := Tryd.underlying117,a53 := Tryd.isAgg117,z53 := Tryd.sizeOf117,v53 := Tryd.zeroValue117,t119 := Tryd.underlying100,a119 := Tryd.isAgg100,z119 := Tryd.sizeOf100,t138 := Tryd.underlying102,a138 := Tryd.isAgg102,z138 := Tryd.sizeOf102,v138 := Tryd.zeroValue102,t139 := Tryd.underlying103,a139 := Tryd.isAgg103,z139 := Tryd.sizeOf103,v139 := Tryd.zeroValue103,g3 := by kernel_rfl,g4 := by kernel_rfl }

theorem tabs_of {G : Gh} {w : World} (h : FzOK G w) : Lib.Utf8Tabs (validL_ren.g 3) (validL_ren.g 4) w := by
 refine ⟨fun c hc => ?_,fun i hi => ⟨?_,?_⟩⟩
 ·refine h.cells 0 c _ (G.tab 0 c _ ?_)
  unfold tabG
  rw [if_pos rfl,if_pos hc]
 ·refine h.cells 1 (2 * i) _ (G.tab 1 (2 * i) _ ?_)
  unfold tabG
  rw [if_neg (by decide),if_pos rfl,if_pos (by omega),if_pos (by omega),show 2 * i / 2 = i by omega]
 ·refine h.cells 1 (2 * i + 1) _ (G.tab 1 (2 * i + 1) _ ?_)
  unfold tabG
  rw [if_neg (by decide),if_pos rfl,if_pos (by omega),if_neg (by omega),show (2 * i + 1) / 2 = i by omega]

theorem FzOK.below {G : Gh} {w w' : World} (h : FzOK G w) (hb : Below w.heap.size w w') : FzOK G w' := by
 refine ⟨fun b o v hc => ?_,fun r es hr => ?_⟩
 ·have hlt : b < w.heap.size := by
   rcases Nat.lt_or_ge b w.heap.size with q | q
   ·exact q
   ·have := h.cells b o v hc
    simp [World.cell?,Array.getElem?_eq_none q] at this
  rw [cell_of_heap (w := w) (hb.block _ hlt)]
  exact h.cells b o v hc
 ·obtain ⟨ents,ck,h1,h2⟩ := h.mps r es hr
  have hlt := (Array.getElem?_eq_some_iff.1 h1).1
  exact ⟨ents,ck,by rw [hb.block _ hlt]; exact h1,h2⟩

theorem stp_below {G : Gh} {w w' : World} (hb : Below w.heap.size w w') : Stp (mnOf G w) w w' :=
 ⟨hb.os,hb.tape,hb.output,hb.size,fun k hk => hb.block k (by
  rcases Nat.lt_or_ge k w.heap.size with q | q
  ·exact q
  ·exact absurd q hk)⟩

theorem PC.ofBool {f : FuncId} {args : List V} {b : Bool} (he : Entered Tryd.prog f) (h : ∀ (G : Gh) (w : World) (vs : Array Value),FzOK G w → args.length = vs.size →
  (∀ (i : Nat) x y,args[i]? = some x → vs[i]? = some y → VR G.bare x y) → Calls Tryd.prog f vs w fun e w' => e = .returned (.bool b) ∧ Below w.heap.size w w') : PC Tryd.prog f args (.bool b) := by
 intro G w vs hok hl hr
 refine ⟨he,(h G w vs hok hl hr).mono ?_⟩
 rintro e w' ⟨rfl,hb⟩
 exact ⟨_,G,rfl,.bool b,hok.below hb,.refl _,⟨fun b o v h => .inr h,fun r e h => .inr h⟩,stp_below hb⟩

theorem one_str {G : Gh} {s : List UInt8} {vs : Array Value} (hl : [V.str s].length = vs.size) (hr : ∀ (i : Nat) x y,[V.str s][i]? = some x → vs[i]? = some y → VR G x y) : vs = #[.string ⟨s.toArray⟩] := by
 have h1 : vs.size = 1 := hl.symm
 have h0 := hr 0 (.str s) vs[0] rfl (Array.getElem?_eq_getElem _)
 apply Array.ext
 ·simpa using h1
 ·intro i h2 h3
  have : i = 0 := by simp at h3; omega
  subst this
  generalize vs[0] = u at h0
  cases h0
  rfl

theorem p29 (s : List UInt8) (hs : s.length ≤ 9223372036854775807) : PC Tryd.prog 29 [.str s] (.bool (Lib.validD s)) := by
 refine PC.ofBool ⟨Tryd.f29,by kernel_rfl,by decide,rfl⟩ fun G w vs hok hl hr => ?_
 rw [one_str hl hr]
 have : Calls Tryd.prog 29 _ _ _ := Any.utf8_ValidString validL ⟨s.toArray⟩ w (by simpa [ByteArray.size] using hs) (tabs_of hok)
 simpa using this

end Go.Proofs.YtdcljlafookliaaDoor.AB

namespace Go.Proofs.YtdcljlafookliaaDoor.AB
open Go Go.Proofs Go.RowKit

def runesGo : Nat → List UInt8 → List Int
 | 0,_ => []
 | n + 1,l => if l = [] then [] else ((Lib.decodeL l).1 : Int) :: runesGo n (l.drop (Lib.decodeL l).2)

def runesZ (l : List UInt8) : List Int := runesGo l.length l

theorem runesGo_nil : ∀ n,runesGo n [] = []
 | 0 => rfl
 | n + 1 => by simp [runesGo]

theorem runesGo_fuel : ∀ (n m : Nat) (l : List UInt8),l.length ≤ n → l.length ≤ m → runesGo n l = runesGo m l
 | 0,m,l,h1,_ => by
  have : l = [] := List.length_eq_zero_iff.1 (by omega)
  subst this; rw [runesGo_nil,runesGo_nil]
 | n + 1,0,l,_,h2 => by
  have : l = [] := List.length_eq_zero_iff.1 (by omega)
  subst this; rw [runesGo_nil,runesGo_nil]
 | n + 1,m + 1,l,h1,h2 => by
  by_cases e : l = []
  ·subst e; rw [runesGo_nil,runesGo_nil]
  ·have hw := Lib.decodeL_width l
   have hl : 0 < l.length := List.length_pos_iff.2 e
   simp only [runesGo,if_neg e]
   rw [runesGo_fuel n m _ (by rw [List.length_drop]; omega) (by rw [List.length_drop]; omega)]

theorem runesZ_nil : runesZ [] = [] := rfl
theorem runesZ_step {l : List UInt8} (h : l ≠ []) : runesZ l = ((Lib.decodeL l).1 : Int) :: runesZ (l.drop (Lib.decodeL l).2) := by
 have hw := Lib.decodeL_width l
 have hl : 0 < l.length := List.length_pos_iff.2 h
 unfold runesZ
 obtain ⟨n,hn⟩ : ∃ n,l.length = n + 1 := ⟨l.length - 1,by omega⟩
 rw [hn]
 simp only [runesGo,if_neg h]
 rw [runesGo_fuel n _ _ (by rw [List.length_drop]; omega) (Nat.le_refl _)]

theorem runesGo_len : ∀ (n : Nat) (l : List UInt8),(runesGo n l).length ≤ n
 | 0,_ => Nat.le_refl _
 | n + 1,l => by
  unfold runesGo
  split
  ·simp
  ·have := runesGo_len n (l.drop (Lib.decodeL l).2)
   simp only [List.length_cons]; omega

theorem runesZ_len (l : List UInt8) : (runesZ l).length ≤ l.length := runesGo_len _ _

theorem runesFrom_eq (s : ByteArray) : ∀ (n i : Nat) (acc : Array Value),(Conv.runesFrom s n i acc).toList = acc.toList ++ (runesGo n (s.data.toList.drop i)).map (Value.int .i32)
 | 0,i,acc => by simp [Conv.runesFrom,runesGo]
 | n + 1,i,acc => by
  unfold Conv.runesFrom
  have hs : s.size = s.data.toList.length := (Array.length_toList ..).symm
  by_cases h : i < s.size
  ·rw [if_pos h]
   have hne : s.data.toList.drop i ≠ [] := by
    intro e
    have := congrArg List.length e
    rw [List.length_drop] at this
    rw [List.length_nil] at this; omega
   dsimp only
   rw [runesFrom_eq s n]
   simp only [runesGo,if_neg hne,Lib.decodeL_drop,List.map_cons,Array.toList_push,List.append_assoc,List.cons_append,List.nil_append,List.drop_drop]
   rfl
  ·rw [if_neg h]
   have hnil : s.data.toList.drop i = [] := List.drop_eq_nil_of_le (by rw [← hs]; omega)
   rw [hnil,runesGo_nil]; simp

def runesA (s : ByteArray) : Array Value := Conv.runesFrom s s.size 0 #[]

theorem runesA_eq (l : List UInt8) : (runesA ⟨l.toArray⟩).toList = (runesZ l).map (Value.int .i32) := by
 unfold runesA
 rw [runesFrom_eq]
 rfl

theorem runesA_size (l : List UInt8) : (runesA ⟨l.toArray⟩).size = (runesZ l).length := by
 rw [← Array.length_toList,runesA_eq,List.length_map]

theorem run_conv30 (w : World) (s : ByteArray) (h : (runesA s).size ≤ 70368744177664) : (convert 9 75 (.string s)).run Tryd.prog w = .ok (.slice (some ⟨w.heap.size,0,none⟩) (runesA s).size (grownCap w (runesA s).size 0 21))
   (w.drew.alloc (.cells (runesA s ++ Array.replicate (grownCap w (runesA s).size 0 21 - (runesA s).size) (.int .i32 0)) 21)) :=
 run_runes_of_string w 9 75 21 s Tryd.underlying9 Tryd.underlying75 Tryd.underlying21 h

set_option maxHeartbeats 1000000 in
set_option maxRecDepth 1000000 in
theorem runes_walk (s : ByteArray) (w : World) (h : (runesA s).size ≤ 70368744177664) :
  Calls Tryd.prog 30 #[.string s] w fun e w' => e = .returned (.slice (some ⟨w.heap.size,0,none⟩) (runesA s).size (grownCap w (runesA s).size 0 21)) ∧ Below w.heap.size w w' ∧
   ∃ m,w'.heap[w.heap.size]? = some (.cells (runesA s ++ Array.replicate (grownCap w (runesA s).size 0 21 - (runesA s).size) (.int .i32 0)) 21 m) := by
 have hc := fun w => run_conv30 w s h
 have hbelow : Below w.heap.size w ((w.alloc (.cells (runesA s ++ Array.replicate (grownCap w (runesA s).size 0 21 - (runesA s).size) (.int .i32 0)) 21)).drew) := ((Below.refl _ w).alloc (Nat.le_refl _) _).drew
 have hnew : ∃ m,((w.alloc (.cells (runesA s ++ Array.replicate (grownCap w (runesA s).size 0 21 - (runesA s).size) (.int .i32 0)) 21)).drew).heap[w.heap.size]? = some (.cells (runesA s ++ Array.replicate (grownCap w (runesA s).size 0 21 - (runesA s).size) (.int .i32 0)) 21 m) :=
  ⟨_,heap_new w _⟩
 go_enter Tryd.func30,Tryd.ntmps30
 go_wp2
 go_ret
 exact ⟨rfl,hbelow,hnew⟩

theorem p30 (s : List UInt8) (hs : s.length ≤ 70368744177664) : PC Tryd.prog 30 [.str s] (.list (.int .i32) (runesZ s) .no) := by
 intro G w vs hok hl hr
 rw [one_str hl hr]
 have hz := runesA_size s
 have hle := runesZ_len s
 refine ⟨⟨Tryd.f30,by kernel_rfl,by decide,rfl⟩,(runes_walk ⟨s.toArray⟩ w (by omega)).mono ?_⟩
 rintro e w' ⟨rfl,hb,m,hcell⟩
 have hat : ∀ i,(runesA ⟨s.toArray⟩)[i]? = ((runesZ s)[i]?).map (Value.int .i32) := fun i => by
  rw [← Array.getElem?_toList,runesA_eq,List.getElem?_map]
 have hcells : ∀ i n,(runesZ s)[i]? = some n → w'.cell? ⟨w.heap.size,i,none⟩ = some (.int .i32 n) := fun i n hn => by
  have h1 : (runesA ⟨s.toArray⟩)[i]? = some (.int .i32 n) := by rw [hat,hn]; rfl
  rw [cell_of_block hcell,Array.getElem?_append_left (Array.getElem?_eq_some_iff.1 h1).1]
  exact h1
 have hinv := hok.inv
 obtain ⟨k1,k2,k3,k4⟩ := hinv.beyond hb w.heap.size (Nat.le_refl _) (fun o => ((runesZ s)[o]?).map (Value.int .i32)) (fun o v hv => by
  cases hn : (runesZ s)[o]? with
  | none => rw [hn] at hv; cases hv
  | some n => rw [hn] at hv; cases hv; exact hcells o n hn)
 have hno : ∀ o,G.bare.cell w.heap.size o = none := by
  intro o
  cases hc : G.bare.cell w.heap.size o with
  | none => rfl
  | some v => have := hinv.cell_lt hc; omega
 have cellsE : (runesZ s).flatMap (Cd.int .i32).cells = (runesZ s).map fun n => V.int .i32 n := by
  induction (runesZ s) with
  | nil => rfl
  | cons a r ih => rw [List.flatMap_cons,ih]; rfl
 have hget : ∀ (i : Nat) x,((runesZ s).flatMap (Cd.int .i32).cells)[i]? = some x → ∃ n,(runesZ s)[i]? = some n ∧ x = .int .i32 n := by
  intro i x hx
  rw [cellsE,List.getElem?_map] at hx
  cases hl : (runesZ s)[i]? with
  | none => rw [hl] at hx; cases hx
  | some n => rw [hl] at hx; exact ⟨n,rfl,(Option.some.inj hx).symm⟩
 refine ⟨_,G.bare.addCells w.heap.size (fun o => ((runesZ s)[o]?).map (Value.int .i32)),rfl,?_,⟨k1.cells,k1.mps⟩,k2,k1.old,k4⟩
 rw [hz]
 refine .list (.int .i32) (runesZ s) .no (some ⟨w.heap.size,0,none⟩) _ w.heap.size 0 (fun i => .int .i32 ((runesZ s).getD i 0)) (fun _ => rfl) ?_ (fun i x hx => ?_) (fun i x hx => rfl) (fun i x hx => ?_) trivial
 ·exact grownCap_ge _ _ _ _
 ·obtain ⟨n,h9,rfl⟩ := hget i x hx
  show (G.bare.addCells _ _).cell w.heap.size (0 + i) = _
  simp only [Gh.addCells,if_true,Nat.zero_add,hno,Option.none_or,h9,Option.map_some,List.getD,Option.getD_some]
 ·obtain ⟨n,h9,rfl⟩ := hget i x hx
  simp only [List.getD,h9,Option.getD_some]
  exact .int _ _

end Go.Proofs.YtdcljlafookliaaDoor.AB

set_option maxRecDepth 100000
set_option maxHeartbeats 2000000
namespace Go.Proofs.YtdcljlafookliaaDoor.AB
open Go
noncomputable def X11 : Cx := ⟨tt,[(29,[.cd .bool]),(30,[.cd (.slice (.int .i32))])],[(15,[(.pure (.int .i64)),(.pure (.int .i64))]),(31,[(.pure (.int .i64))])],[(11,[(4,1,.meth "crucible/object.kind" (.int .i64)),(11,4,.xc),(17,9,.xc)])],[(11,[(1,mkM 70 0 [0,11,51,52,53],0)])],[]⟩
theorem FN11 : fnsB Tryd.prog X11.fns := (show True from trivial)
def M11_1 : List Bool × Nat := (mkM 70 0 [0,11,51,52,53],1)
def S11_1 (h0 : Nat) (at11 : Int) (t51 : List Int) (t52 : Int) (t53 : Int) (hq0 : XH) (T : Toks) : St :=
  mkS 70 [(0,(.ref (some h0) yZ1 0 [])),(11,(.v (.int .i64 at11))),(51,(.v (.list (.int .i32) t51 .no))),(52,(.v (.int .i64 t52))),(53,(.v (.int .i64 t53)))] [(some (.heap hq0))] T
noncomputable def B11_1 : (Exit → St → Prop) → St → Prop := (awp X11.tt (callN Tryd.prog X11 0) (X11.md 11) 1 (X11.mk1 11) 1 (codeAt [1,1,1,1,1,1,1,0,1,0,0] (bd Tryd.f11)))
noncomputable def K11_0 (R : (Int × Int) → XH → Prop) : Exit → St → Prop := seqK ((awp X11.tt (callN Tryd.prog X11 0) (X11.md 11) 1 (X11.mk1 11) 0 (codeAt [1,1,1,1,1,1,1,1] (bd Tryd.f11))) (retK tt Tryd.f11.results.toList fun x s' => xfin [(.pure (.int .i64)),(.pure (.int .i64))] R x ⟨[],s'.hp,s'.T⟩)) (retK tt Tryd.f11.results.toList fun x s' => xfin [(.pure (.int .i64)),(.pure (.int .i64))] R x ⟨[],s'.hp,s'.T⟩)
noncomputable def Q11_1 (R : (Int × Int) → XH → Prop) : Exit → St → Prop := (blockK 1 (K11_0 R))
theorem E11 (X : XH) (h0 : Nat) (id1 : Int) (text2 : (List UInt8)) {R : (Int × Int) → XH → Prop} (h : (∃ (a1 : ((Option Nat) × ((Option Nat) × Int))),XH.el X yZ1 h0 0 = some a1 ∧ (∃ (es2 : List (Int × (Option (Nat × CV)))),XH.vmp X (.int .i64) .ifc a1.2.1 = some es2 ∧ (∀ (v3 : (Option (Nat × CV))),mfind (Cd.keq (.int .i64) id1) es2 = some v3 → (((!true) = true → R ((0:Int),(24:Int)) X) ∧
 ((!true) = false → (∃ (p4 : Int),MC Tryd.prog "crucible/object.kind" v3 (.int .i64 p4) ∧ (((p4 != (4:Int)) = true → R ((0:Int),(1:Int)) X) ∧
 ((p4 != (4:Int)) = false → (∃ p5 : Bool,PC Tryd.prog 29 [(.str text2)] (.bool p5) ∧ (((!p5) = true → R ((0:Int),(4:Int)) X) ∧
 ((!p5) = false → (∃ p6 : (List Int),PC Tryd.prog 30 [(.str text2)] ((.list (.int .i32) p6 .no)) ∧ (((decide (((p6).length : Int) > (1048576:Int))) = true → R ((0:Int),(23:Int)) X) ∧
 ((decide (((p6).length : Int) > (1048576:Int))) = false → (XC Tryd.prog 15 [(.pure (.int .i64)),(.pure (.int .i64))] [(.ref (some h0) yZ1 0 []),(.v (.int .i64 id1)),(.v (.int .i64 (((p6).length : Int))))] X (fun (p7 : Int × Int) (X8 : XH) => (((p7.2 != (0:Int)) = true → R ((0:Int),p7.2) X8) ∧
 ((p7.2 != (0:Int)) = false → (Loops B11_1 M11_1 (Q11_1 R)
  (S11_1 h0 p7.1 p6 (((p6).length : Int)) (0:Int) X8 ⟨0,[]⟩)))))))))))))))))) ∧ (mfind (Cd.keq (.int .i64) id1) es2 = none → (((!false) = true → R ((0:Int),(24:Int)) X) ∧
 ((!false) = false → (∃ (p9 : Int),MC Tryd.prog "crucible/object.kind" none (.int .i64 p9) ∧ (((p9 != (4:Int)) = true → R ((0:Int),(1:Int)) X) ∧
 ((p9 != (4:Int)) = false → (∃ p10 : Bool,PC Tryd.prog 29 [(.str text2)] (.bool p10) ∧ (((!p10) = true → R ((0:Int),(4:Int)) X) ∧
 ((!p10) = false → (∃ p11 : (List Int),PC Tryd.prog 30 [(.str text2)] ((.list (.int .i32) p11 .no)) ∧ (((decide (((p11).length : Int) > (1048576:Int))) = true → R ((0:Int),(23:Int)) X) ∧
 ((decide (((p11).length : Int) > (1048576:Int))) = false → (XC Tryd.prog 15 [(.pure (.int .i64)),(.pure (.int .i64))] [(.ref (some h0) yZ1 0 []),(.v (.int .i64 id1)),(.v (.int .i64 (((p11).length : Int))))] X (fun (p12 : Int × Int) (X13 : XH) => (((p12.2 != (0:Int)) = true → R ((0:Int),p12.2) X13) ∧
 ((p12.2 != (0:Int)) = false → (Loops B11_1 M11_1 (Q11_1 R)
  (S11_1 h0 p12.1 p11 (((p11).length : Int)) (0:Int) X13 ⟨0,[]⟩))))))))))))))))))))) :
  fnK X11.tt (callN Tryd.prog X11 0) (X11.md 11) (X11.mk1 11) Tryd.f11 [(.ref (some h0) yZ1 0 []),(.v (.int .i64 id1)),(.v (.str text2))] ⟨[],[some (.heap X)],⟨0,[]⟩⟩ (xfin [(.pure (.int .i64)),(.pure (.int .i64))] R) := Eq.mp (by kernel_rfl) h
theorem L11_1 (h0 : Nat) (at11 : Int) (t51 : List Int) (t52 : Int) (t53 : Int) (hq0 : XH) (T : Toks) {R : (Int × Int) → XH → Prop} {k1 : St → Prop}
 (h : (((decide (t53 < t52)) = true → (0 ≤ t53 ∧ t53 < ((t51).length : Int) ∧ (∃ (a14 : ((Option Nat) × ((Option Nat) × Int))),XH.el hq0 yZ1 h0 0 = some a14 ∧ (XC Tryd.prog 31 [(.pure (.int .i64))] [(.ref a14.1 yZ0 0 []),(.v (.int .i64 at11)),(.v (.int .i64 ((IntKind.wrap .i64 ((2:Int) + t53))))),(.v (.int .i64 ((IntKind.wrap .i64 (t51.getD (t53).toNat 0)))))] hq0 (fun (p15 : Int) (X16 : XH) => k1 (S11_1 h0 at11 t51 t52 ((IntKind.wrap .i64 (t53 + (1:Int)))) X16 T)))))) ∧
 ((decide (t53 < t52)) = false → R (at11,(0:Int)) hq0))) :
  B11_1 (loopQ M11_1 k1 (Q11_1 R)) (S11_1 h0 at11 t51 t52 t53 hq0 T) := Eq.mp (by kernel_rfl) h
end Go.Proofs.YtdcljlafookliaaDoor.AB

namespace Go.Proofs.YtdcljlafookliaaDoor.AB
open Go

variable {X X' : XH} {h : Nat} {o : OD} {bs : List Bl}

theorem over_step {W l : List Int} {q i : Nat} (hi : i < l.length) (hq : q + l.length ≤ W.length) : over W q (l.take (i + 1)) = (over W q (l.take i)).set (q + i) (l.getD i 0) := by
  have e1 : (l.take i).length = i := by rw [List.length_take]; omega
  have e2 : (l.take (i + 1)).length = i + 1 := by rw [List.length_take]; omega
  refine List.ext_getElem? fun j => ?_
  rw [List.getElem?_set,over_length (by omega),over_get (by omega),over_get (by omega),e1,e2]
  by_cases c : q + i = j
  · subst c
    rw [if_pos (by omega),if_pos rfl,if_pos (by omega),Nat.add_sub_cancel_left,List.getElem?_take,if_pos (by omega)]
    simp [List.getD,List.getElem?_eq_getElem hi]
  · rw [if_neg c]
    by_cases c2 : q ≤ j ∧ j < q + i
    · rw [if_pos (by omega),if_pos c2,List.getElem?_take,List.getElem?_take,if_pos (by omega),if_pos (by omega)]
    · rw [if_neg (by omega),if_neg c2]

theorem runesZ_bd (l : List UInt8) : ∀ v ∈ runesZ l,0 ≤ v ∧ v ≤ 1114111 := by
  have : ∀ (n : Nat) (l : List UInt8),∀ v ∈ runesGo n l,0 ≤ v ∧ v ≤ 1114111 := by
    intro n
    induction n with
    | zero => intro l v hv; simp [runesGo] at hv
    | succ n ih =>
      intro l v hv
      unfold runesGo at hv
      split at hv
      · cases hv
      · rcases List.mem_cons.1 hv with rfl | hv
        · have := Lib.decodeL_rune l
          omega
        · exact ih _ v hv
  exact this _ l

def textE (o : OD) (id : Int) (s : List UInt8) : Int :=
  match tfind o.ts id with
  | none => 24
  | some q => if q.kind = 4 then (if Lib.validD s = true then (if (runesZ s).length ≤ 1048576 then 0 else 23) else 4) else 1

def OTextQ (X : XH) (h : Nat) (o : OD) (bs : List Bl) (id : Int) (t : List UInt8) (p : Int × Int) (X' : XH) : Prop :=
  ∃ o',RepH X' h o' ∧ Mv X (o.hs h) X' (o'.hs h) ∧ o'.ts = o.ts ∧ o'.last = o.last ∧
   ((textE o id t ≠ 0 ∧ p = (0,textE o id t) ∧ o' = o) ∨
    (textE o id t = 0 ∧ (bodyR o id (runesZ t).length).2 ≠ 0 ∧ p = (0,(bodyR o id (runesZ t).length).2) ∧ o' = o) ∨
    (textE o id t = 0 ∧ (bodyR o id (runesZ t).length).2 = 0 ∧ fitsR o id (runesZ t).length = false ∧ p = (0,23) ∧ o' = o) ∨
    ∃ (sh : Shp) (m s : Nat) (pre post : List Bl),textE o id t = 0 ∧ bodyR o id (runesZ t).length = ((m : Int),0) ∧ 1 ≤ m ∧ m ≤ 1048576 ∧ fitsR o id (runesZ t).length = true ∧ tfind o.ts id = some sh ∧ BestAt bs m pre s post ∧ p = (((1 + sumS pre : Nat) : Int),0) ∧
      DOK o'.d (allocB pre m s post) ∧ o'.d.W = over (mkW (allocW o.d.W (1 + sumS pre) m s) (1 + sumS pre) sh id (runesZ t).length) (1 + sumS pre + 3) (runesZ t) ∧
      ∀ a,a ≠ ((1 + sumS pre : Nat) : Int) → ob o'.d.W (allocB pre m s post) a = ob o.d.W bs a)

theorem c11 (r : RepH X h o) (hd : DOK o.d bs) (id : Int) (t : List UInt8) (ht : t.length ≤ 70368744177664) (hrow : ∀ q,tfind o.ts id = some q → q.kind = 4 → q = .row 4) :
    XC Tryd.prog 11 [.pure (.int .i64),.pure (.int .i64)] [.ref (some h) cH 0 [],.v (.int .i64 id),.v (.str t)] X (OTextQ X h o bs id t) := by
  have no : ∀ k,k ≠ 0 → textE o id t = k → OTextQ X h o bs id t (0,k) X := fun k hk e => ⟨o,r,.refl _ _,rfl,rfl,.inl ⟨by rw [e]; exact hk,by rw [e],rfl⟩⟩
  cases hf : tfind o.ts id with
  | none =>
    have e : textE o id t = 24 := by unfold textE; rw [hf]
    exact xcOf (X := X11) rfl FN11 (by kernel_rfl) (by decide) (E11 X h id t ⟨o.val,r.el,_,r.vmp,fun v hv => (find_none hf hv).elim,fun hv => ⟨fun _ => no 24 (by decide) e,fun e => by cases e⟩⟩)
  | some q =>
    refine xcOf (X := X11) rfl FN11 (by kernel_rfl) (by decide) (E11 X h id t ⟨o.val,r.el,_,r.vmp,fun v hv => ⟨fun e => (by cases e),fun _ => ?_⟩,fun hv => (find_some0 hf hv).elim⟩)
    have hv := find_some hf hv
    subst hv
    have hE : textE o id t = if q.kind = 4 then (if Lib.validD t = true then (if (runesZ t).length ≤ 1048576 then 0 else 23) else 4) else 1 := by unfold textE; rw [hf]
    refine ⟨_,mc_kind q,fun e1 => ?_,fun e1 => ⟨_,p29 t (by omega),fun e2 => ?_,fun e2 => ⟨_,p30 t ht,fun e3 => ?_,fun e3 => ?_⟩⟩⟩
    · exact no 1 (by decide) (by rw [hE,if_neg (by simpa using e1)])
    · exact no 4 (by decide) (by rw [hE,if_pos (by simpa using e1),if_neg (by simpa using e2)])
    · have e3 := of_decide_eq_true e3
      exact no 23 (by decide) (by rw [hE,if_pos (by simpa using e1),if_pos (by simpa using e2),if_neg (by omega)])
    have e1 : q.kind = 4 := by simpa using e1
    have e3 := of_decide_eq_false e3
    have e0 : textE o id t = 0 := by rw [hE,if_pos e1,if_pos (by simpa using e2),if_pos (by omega)]
    have hq := hrow q hf e1
    subst hq
    refine (c15 r hd id _).mono fun p7 X8 hp7 => ?_
    obtain ⟨o1,r1,m1,t1,l1,hp7⟩ := hp7
    rcases hp7 with ⟨g1,rfl,rfl⟩ | ⟨g1,g2,rfl,rfl⟩ | ⟨sh,m,s,pre,post,g1,g2,g3,g4,g5,g6,rfl,g8,g9,g10⟩
    · exact ⟨fun _ => ⟨o1,r1,m1,t1,l1,.inr (.inl ⟨e0,g1,rfl,rfl⟩)⟩,fun e => absurd (by simpa using e) g1⟩
    · exact ⟨fun _ => ⟨o1,r1,m1,t1,l1,.inr (.inr (.inl ⟨e0,g1,g2,rfl,rfl⟩))⟩,fun e => by cases e⟩
    refine ⟨fun e => (by cases e),fun _ => ?_⟩
    obtain rfl : sh = .row 4 := Option.some.inj (g5.symm.trans hf)
    have hmem : (1 + sumS pre,allocS m s,true) ∈ walk 1 (allocB pre m s post) := (used_alloc g6 _ _).2 (.inr ⟨rfl,rfl⟩)
    have hS : m + 1 ≤ allocS m s := by
      have := g6.le
      unfold allocS; split <;> omega
    have hm2 : m = (runesZ t).length + 2 := by
      obtain ⟨s',hs',b0,b1,b2⟩ := bodyR_ok (o := o) (id := id) (n := (runesZ t).length) (by rw [g1])
      obtain rfl : s' = .row 4 := Option.some.inj (hs'.symm.trans hf)
      have := congrArg Prod.fst (b2.symm.trans g1)
      simp only [bodyS] at this
      rw [w64 (by omega) (by omega)] at this
      omega
    obtain ⟨b1,b2,b3⟩ := g8.w.bd hmem
    have hW0 : 1 + sumS pre + 3 + (runesZ t).length ≤ o1.d.W.length := by omega
    have hbd := runesZ_bd t
    generalize hl : runesZ t = l at *
    refine Loops.intro (fun q : Nat × XH × OD => S11_1 h ((1 + sumS pre : Nat) : Int) l (l.length : Nat) (q.1 : Nat) q.2.1 ⟨0,[]⟩)
      (fun q => q.1 ≤ l.length ∧ RepH q.2.1 h q.2.2 ∧ Mv X (o.hs h) q.2.1 (q.2.2.hs h) ∧ q.2.2.ts = o.ts ∧ q.2.2.last = o.last ∧ DOK q.2.2.d (allocB pre m s post) ∧ q.2.2.d.W = over o1.d.W (1 + sumS pre + 3) (l.take q.1)) (fun q => l.length - q.1)
      (0,X8,o1) rfl ⟨Nat.zero_le _,r1,m1,t1,l1,g8,by simp [over]⟩ ?_
    rintro ⟨i,Y,oy⟩ ⟨hi,ry,my,ty,ly,dy,wy⟩
    have hi : i ≤ l.length := hi
    have wy : oy.d.W = over o1.d.W (1 + sumS pre + 3) (l.take i) := wy
    have dy : DOK oy.d (allocB pre m s post) := dy
    have ry : RepH Y h oy := ry
    refine L11_1 h ((1 + sumS pre : Nat) : Int) l (l.length : Nat) (i : Nat) Y ⟨0,[]⟩ ⟨fun e => ?_,fun e => ?_⟩
    · have e := of_decide_eq_true e
      have hlt : i < l.length := by omega
      have hm' : l.getD i 0 ∈ l := by simp [List.getD,List.getElem?_eq_getElem hlt]
      have hv := hbd _ hm'
      refine ⟨by omega,by omega,oy.val,ry.el,?_⟩
      rw [Int.toNat_natCast,wrap64 (x := l.getD i 0) (by omega) (by omega),wrap64 (x := 2 + ((i : Nat) : Int)) (by omega) (by omega),show (2:Int) + ((i : Nat) : Int) = ((2 + i : Nat) : Int) by omega]
      refine (c31 ry.r dy _ _ _).mono fun p15 X16 hp => ?_
      obtain ⟨_,d',q1,q2,q3,q4⟩ := hp
      obtain ⟨k1,k2⟩ := ry.turn q1 q2
      have hw : IntKind.wrap .i64 (((i : Nat) : Int) + 1) = ((i + 1 : Nat) : Int) := by rw [wrap64 (by omega) (by omega)]; omega
      rw [hw]
      have hw2 := (writeW_of dy.w hmem (k := 2 + i) (by omega) (l.getD i 0)).2
      refine Again.mk (i + 1,X16,_) rfl ⟨show i + 1 ≤ l.length by omega,k1,my.trans k2,ty,ly,q4,?_⟩ (show l.length - (i + 1) < l.length - i by omega)
      show d'.W = _
      rw [q3]
      show writeW oy.d.W _ _ _ _ = _
      rw [hw2,wy,over_step hlt hW0]
      congr 1
      omega
    · have e := of_decide_eq_false e
      have hge : i = l.length := by omega
      subst hge
      rw [List.take_length] at wy
      refine ⟨oy,ry,my,ty,ly,.inr (.inr (.inr ⟨.row 4,m,s,pre,post,e0,?_,g2,g3,?_,hf,g6,rfl,dy,?_,fun a ha => ?_⟩))⟩
      · rw [hl]; exact g1
      · rw [hl]; exact g4
      · rw [wy,g9,hl]
      · have : ob oy.d.W (allocB pre m s post) a = ob o1.d.W (allocB pre m s post) a := by
          refine ob_ext g8.w dy.w (fun _ _ _ => Iff.rfl) fun p s' ep hm' => bodyW_ext fun j h1 h2 => ?_
          have hne : p ≠ 1 + sumS pre := fun r => ha (by rw [ep,r])
          have := walk_disj g8.w.sz hm' hmem hne
          rw [wy,over_get (by omega),if_neg (by omega)]
        rw [this,g10,if_neg ha]

end Go.Proofs.YtdcljlafookliaaDoor.AB

set_option maxRecDepth 100000
set_option maxHeartbeats 2000000
namespace Go.Proofs.YtdcljlafookliaaDoor.AB
open Go
noncomputable def X23 : Cx := ⟨tt,[(42,[.cd (.slice .bool)])],[],[(23,[(4,1,.meth "crucible/object.kind" (.int .i64))])],[],[]⟩
theorem FN23 : fnsB Tryd.prog X23.fns := (show True from trivial)
theorem E23 (X : XH) (h0 : Nat) (id1 : Int) {R : ((Int × (List Bool)) × Bool) → XH → Prop} (h : (∃ (a1 : ((Option Nat) × ((Option Nat) × Int))),XH.el X yZ1 h0 0 = some a1 ∧ (∃ (es2 : List (Int × (Option (Nat × CV)))),XH.vmp X (.int .i64) .ifc a1.2.1 = some es2 ∧ (∀ (v3 : (Option (Nat × CV))),mfind (Cd.keq (.int .i64) id1) es2 = some v3 → (((!true) = true → R (((0:Int),([] : List Bool)),false) X) ∧
 ((!true) = false → (∃ (p4 : Int),MC Tryd.prog "crucible/object.kind" v3 (.int .i64 p4) ∧ ((∀ (y5 : CV),v3 = some (81,y5) → (∃ (a6 : ((List Bool) × Unit)),y5 = (⟨(.pair (.slice .bool) .unit),a6⟩ : CV) ∧ (∃ p7 : (List Bool),PC Tryd.prog 42 [(.list .bool a6.1 .no)] (.list .bool p7 .no) ∧ R ((p4,p7),true) X))) ∧ ((∀ (y5 : CV),v3 ≠ some (81,y5)) → R ((p4,([] : List Bool)),true) X)))))) ∧ (mfind (Cd.keq (.int .i64) id1) es2 = none → (((!false) = true → R (((0:Int),([] : List Bool)),false) X) ∧
 ((!false) = false → (∃ (p8 : Int),MC Tryd.prog "crucible/object.kind" none (.int .i64 p8) ∧ ((∀ (y9 : CV),none = some (81,y9) → (∃ (a10 : ((List Bool) × Unit)),y9 = (⟨(.pair (.slice .bool) .unit),a10⟩ : CV) ∧ (∃ p11 : (List Bool),PC Tryd.prog 42 [(.list .bool a10.1 .no)] (.list .bool p11 .no) ∧ R ((p8,p11),true) X))) ∧ ((∀ (y9 : CV),none ≠ some (81,y9)) → R ((p8,([] : List Bool)),true) X))))))))) :
  fnK X23.tt (callN Tryd.prog X23 0) (X23.md 23) (X23.mk1 23) Tryd.f23 [(.ref (some h0) yZ1 0 []),(.v (.int .i64 id1))] ⟨[],[some (.heap X)],⟨0,[]⟩⟩ (xfin [(.pure (.pair (.int .i64) (.slice .bool))),(.pure .bool)] R) := Eq.mp (by kernel_rfl) h
end Go.Proofs.YtdcljlafookliaaDoor.AB

set_option maxRecDepth 100000
set_option maxHeartbeats 2000000
namespace Go.Proofs.YtdcljlafookliaaDoor.AB
open Go
noncomputable def X7 : Cx := ⟨tt,[(26,[.cd .bool])],[(8,[(.ref yZ1),(.pure (.int .i64))]),(10,[(.pure (.int .i64)),(.pure (.int .i64))]),(11,[(.pure (.int .i64)),(.pure (.int .i64))]),(12,[(.pure .str),(.pure .bool)]),(13,[(.pure (.int .i64)),(.pure .bool)]),(14,[(.pure (.slice (.int .i64)))]),(15,[(.pure (.int .i64)),(.pure (.int .i64))]),(17,[(.pure (.int .i64)),(.pure .bool),(.pure (.int .i64))]),(18,[(.pure (.int .i64))]),(19,[(.pure (.int .i64)),(.pure .bool)]),(25,[(.pure (.int .i64)),(.pure .bool)])],[(7,[(1,0,.xc),(4,3,.xc),(5,2,.xc),(6,1,.xc),(7,1,.xc),(8,1,.rd),(9,1,.rd),(10,1,.rd),(11,1,.rd),(14,1,.xc),(15,1,.xc),(16,1,.rd),(17,1,.rd),(18,1,.xc),(19,1,.rd),(20,1,.rd),(21,1,.rd),(22,1,.rd)])],[],[]⟩
theorem FN7 : fnsB Tryd.prog X7.fns := (show True from trivial)
theorem E7 {R : V → Prop} (h : (XC Tryd.prog 8 [(.ref yZ1),(.pure (.int .i64))] [(.v (.int .i64 (40:Int)))] XH.none (fun (p1 : (Option Nat) × Int) (X2 : XH) => (((Option.isNone p1.1) = true → R (.bool false)) ∧ ((Option.isNone p1.1) = false → (((p1.2 != (0:Int)) = true → R (.bool false)) ∧
 ((p1.2 != (0:Int)) = false → (XC Tryd.prog 10 [(.pure (.int .i64)),(.pure (.int .i64))] [(.ref p1.1 yZ1 0 []),(.v (.agg [(.int .i64 (1:Int)),(.list .bool ([false,true] : List Bool) .no)]))] X2 (fun (p3 : Int × Int) (X4 : XH) => (XC Tryd.prog 10 [(.pure (.int .i64)),(.pure (.int .i64))] [(.ref p1.1 yZ1 0 []),(.v (.agg [(.int .i64 (4:Int)),(.list .bool ([] : List Bool) .no)]))] X4 (fun (p5 : Int × Int) (X6 : XH) => (XC Tryd.prog 15 [(.pure (.int .i64)),(.pure (.int .i64))] [(.ref p1.1 yZ1 0 []),(.v (.int .i64 (1:Int))),(.v (.int .i64 (0:Int)))] X6 (fun (p7 : Int × Int) (X8 : XH) => (XC Tryd.prog 11 [(.pure (.int .i64)),(.pure (.int .i64))] [(.ref p1.1 yZ1 0 []),(.v (.int .i64 (2:Int))),(.v (.str ([104,195,169] : List UInt8)))] X8 (fun (p9 : Int × Int) (X10 : XH) => (∃ (p11 : Int × Bool),RC Tryd.prog 25 [(.pure (.int .i64)),(.pure .bool)] [(.ref p1.1 yZ1 0 []),(.v (.int .i64 (2:Int)))] X10 p11 ∧ (∃ (p12 : Int × Bool),RC Tryd.prog 25 [(.pure (.int .i64)),(.pure .bool)] [(.ref p1.1 yZ1 0 []),(.v (.int .i64 (6:Int)))] X10 p12 ∧ (∃ (p13 : Int × Bool),RC Tryd.prog 25 [(.pure (.int .i64)),(.pure .bool)] [(.ref p1.1 yZ1 0 []),(.v (.int .i64 (7:Int)))] X10 p13 ∧ (∃ (p14 : Int × Bool),RC Tryd.prog 25 [(.pure (.int .i64)),(.pure .bool)] [(.ref p1.1 yZ1 0 []),(.v (.int .i64 (8:Int)))] X10 p14 ∧ (((p3.1 != (1:Int)) = true → R (.bool false)) ∧ ((p3.1 != (1:Int)) = false → (((p5.1 != (2:Int)) = true → R (.bool false)) ∧ ((p5.1 != (2:Int)) = false → (((p7.1 != (1:Int)) = true → R (.bool false)) ∧ ((p7.1 != (1:Int)) = false → (((p7.2 != (0:Int)) = true → R (.bool false)) ∧ ((p7.2 != (0:Int)) = false → (((p9.1 != (5:Int)) = true → R (.bool false)) ∧ ((p9.1 != (5:Int)) = false → (((p9.2 != (0:Int)) = true → R (.bool false)) ∧ ((p9.2 != (0:Int)) = false → (((p11.1 != (1:Int)) = true → R (.bool false)) ∧ ((p11.1 != (1:Int)) = false → (((p12.1 != (2:Int)) = true → R (.bool false)) ∧ ((p12.1 != (2:Int)) = false → (((p13.1 != (2:Int)) = true → R (.bool false)) ∧ ((p13.1 != (2:Int)) = false → (((p14.1 != (104:Int)) = true → R (.bool false)) ∧
 ((p14.1 != (104:Int)) = false → (XC Tryd.prog 18 [(.pure (.int .i64))] [(.ref p1.1 yZ1 0 []),(.v (.int .i64 (1:Int))),(.v (.int .i64 (1:Int))),(.v (.int .i64 (5:Int)))] X10 (fun (p15 : Int) (X16 : XH) => (XC Tryd.prog 18 [(.pure (.int .i64))] [(.ref p1.1 yZ1 0 []),(.v (.int .i64 (1:Int))),(.v (.int .i64 (1:Int))),(.v (.int .i64 (4:Int)))] X16 (fun (p17 : Int) (X18 : XH) => (∃ (p19 : Int × Bool × Int),RC Tryd.prog 17 [(.pure (.int .i64)),(.pure .bool),(.pure (.int .i64))] [(.ref p1.1 yZ1 0 []),(.v (.int .i64 (1:Int))),(.v (.int .i64 (1:Int)))] X18 p19 ∧ (∃ (p20 : Int × Bool × Int),RC Tryd.prog 17 [(.pure (.int .i64)),(.pure .bool),(.pure (.int .i64))] [(.ref p1.1 yZ1 0 []),(.v (.int .i64 (1:Int))),(.v (.int .i64 (2:Int)))] X18 p20 ∧ (XC Tryd.prog 18 [(.pure (.int .i64))] [(.ref p1.1 yZ1 0 []),(.v (.int .i64 (5:Int))),(.v (.int .i64 (0:Int))),(.v (.int .i64 (1:Int)))] X18 (fun (p21 : Int) (X22 : XH) => (∃ (p23 : (List UInt8) × Bool),RC Tryd.prog 12 [(.pure .str),(.pure .bool)] [(.ref p1.1 yZ1 0 []),(.v (.int .i64 (5:Int)))] X22 p23 ∧ (∃ (p24 : Int × Bool),RC Tryd.prog 13 [(.pure (.int .i64)),(.pure .bool)] [(.ref p1.1 yZ1 0 []),(.v (.int .i64 (5:Int)))] X22 p24 ∧ (∃ (p25 : Int × Bool),RC Tryd.prog 19 [(.pure (.int .i64)),(.pure .bool)] [(.ref p1.1 yZ1 0 []),(.v (.int .i64 (9:Int)))] X22 p25 ∧ (∃ (p26 : (List Int)),RC Tryd.prog 14 [(.pure (.slice (.int .i64)))] [(.ref p1.1 yZ1 0 []),(.v (.int .i64 (1:Int)))] X22 p26 ∧ (∃ p27 : Bool,PC Tryd.prog 26 [(.list (.int .i64) p26 .no),(.list (.int .i64) (([(5:Int)] : List Int)) .no)] (.bool p27) ∧ (((p15 == (0:Int)) = true → (((p17 == (18:Int)) = true → (((p19.1 == (5:Int)) = true → ((p19.2.1 = true → (((p19.2.2 == (0:Int)) = true → (((p20.2.2 == (1:Int)) = true → (((p21 == (18:Int)) = true → ((p27 = true → (((p23.1 == ([104,195,169] : List UInt8)) = true → ((p23.2 = true → (((p24.1 == (2:Int)) = true → R (.bool (!p25.2))) ∧ ((p24.1 == (2:Int)) = false → R (.bool false)))) ∧ (p23.2 = false → R (.bool false)))) ∧ ((p23.1 == ([104,195,169] : List UInt8)) = false → R (.bool false)))) ∧ (p27 = false → R (.bool false)))) ∧ ((p21 == (18:Int)) = false → R (.bool false)))) ∧ ((p20.2.2 == (1:Int)) = false → R (.bool false)))) ∧ ((p19.2.2 == (0:Int)) = false → R (.bool false)))) ∧ (p19.2.1 = false → R (.bool false)))) ∧ ((p19.1 == (5:Int)) = false → R (.bool false)))) ∧ ((p17 == (18:Int)) = false → R (.bool false)))) ∧ ((p15 == (0:Int)) = false → R (.bool false))))))))))))))))))))))))))))))))))))))))))))))))))))))) :
  fnK X7.tt (callN Tryd.prog X7 0) (X7.md 7) (X7.mk1 7) Tryd.f7 [] ⟨[],[some (.heap XH.none)],⟨0,[]⟩⟩ (topK R) := Eq.mp (by kernel_rfl) h
end Go.Proofs.YtdcljlafookliaaDoor.AB

namespace Go.Proofs.YtdcljlafookliaaDoor.AB
open Go

variable {X X' : XH} {h : Nat} {o : OD} {bs : List Bl}

def Shp.refs : Shp → List Bool
 | .plain r => r
 | _ => []

def kindR (o : OD) (id : Int) : (Int × List Bool) × Bool :=
 match tfind o.ts id with
 | none => ((0,[]),false)
 | some s => ((s.kind,s.refs),true)

theorem kindR_none {id : Int} (e : tfind o.ts id = none) : kindR o id = ((0,[]),false) := by unfold kindR; rw [e]
theorem kindR_some {id : Int} {s : Shp} (e : tfind o.ts id = some s) : kindR o id = ((s.kind,s.refs),true) := by unfold kindR; rw [e]

theorem c23 (r : RepH X h o) (id : Int) (hl : ∀ s,tfind o.ts id = some s → s.refs.length ≤ 140737488355328) : RC Tryd.prog 23 [.pure (.pair (.int .i64) (.slice .bool)),.pure .bool] [.ref (some h) cH 0 [],.v (.int .i64 id)] X (kindR o id) := by
 cases e : tfind o.ts id with
 | none =>
  rw [kindR_none e]
  exact xcOf (X := X23) rfl FN23 (by kernel_rfl) (by decide) (E23 X h id ⟨o.val,r.el,_,r.vmp,fun v hv => (find_none e hv).elim,fun hv => ⟨fun _ => ⟨rfl,rfl⟩,fun e => by cases e⟩⟩)
 | some s =>
  rw [kindR_some e]
  refine xcOf (X := X23) rfl FN23 (by kernel_rfl) (by decide) (E23 X h id ⟨o.val,r.el,_,r.vmp,fun v hv => ⟨fun e => (by cases e),fun _ => ?_⟩,fun hv => (find_some0 e hv).elim⟩)
  have hv := find_some e hv
  subst hv
  refine ⟨_,mc_kind s,fun y hy => ?_,fun n1 => ?_⟩
  ·obtain ⟨q,e3,rfl⟩ := sw_plain (s := some s) hy
   cases e3
   exact ⟨_,rfl,_,p42 q (hl _ e),rfl,rfl⟩
  ·have : s.refs = [] := by
    cases s with
    | plain q => exact absurd rfl (n1 _)
    | row k => rfl
    | single k => rfl
   rw [this]; exact ⟨rfl,rfl⟩

theorem OMakeQ.ok {id n : Int} {p : Int × Int} {sh : Shp} {m s : Nat} {pre post : List Bl} (q : OMakeQ X h o bs id n p X') (hd : DOK o.d bs) (hsh : tfind o.ts id = some sh) (hb : bodyR o id n = ((m : Int),0)) (hm : 1 ≤ m ∧ m ≤ 1048576) (b : BestAt bs m pre s post) :
  ∃ o',RepH X' h o' ∧ Mv X (o.hs h) X' (o'.hs h) ∧ o'.ts = o.ts ∧ o'.last = o.last ∧ p = (((1 + sumS pre : Nat) : Int),0) ∧ DOK o'.d (allocB pre m s post) ∧ o'.d.W = mkW (allocW o.d.W (1 + sumS pre) m s) (1 + sumS pre) sh id n ∧
   ∀ a,ob o'.d.W (allocB pre m s post) a = if a = ((1 + sumS pre : Nat) : Int) then some (mkBody sh id n (allocS m s - 1)) else ob o.d.W bs a := by
 obtain ⟨o1,r1,m1,t1,l1,hp7⟩ := q
 rcases hp7 with ⟨g1,rfl,rfl⟩ | ⟨g1,g2,rfl,rfl⟩ | ⟨sh',m',s',pre',post',g1,g2,g3,g4,g5,g6,rfl,g8,g9,g10⟩
 ·rw [hb] at g1; exact absurd rfl g1
 ·have : (bestR o1.d.L (m : Int)).2 = true := (fits_iff hd _).2 ⟨by omega,by omega,1 + sumS pre,s,by rw [b.e]; exact walk_three.2 (.inr (.inl rfl)),by have := b.le; omega⟩
  unfold fitsR at g2
  rw [hb,if_pos rfl,this] at g2; cases g2
 ·have : m' = m := by
   have := congrArg Prod.fst (g1.symm.trans hb)
   simp only at this; omega
  subst this
  obtain ⟨rfl,rfl,rfl⟩ := b.uniq hd.w.sz g6
  cases hsh.symm.trans g5
  exact ⟨o1,r1,m1,t1,l1,rfl,g8,g9,g10⟩

theorem OTextQ.ok {id : Int} {t : List UInt8} {p : Int × Int} {sh : Shp} {m s : Nat} {pre post : List Bl} (q : OTextQ X h o bs id t p X') (hd : DOK o.d bs) (he : textE o id t = 0) (hsh : tfind o.ts id = some sh) (hb : bodyR o id (runesZ t).length = ((m : Int),0)) (hm : 1 ≤ m ∧ m ≤ 1048576) (b : BestAt bs m pre s post) :
  ∃ o',RepH X' h o' ∧ Mv X (o.hs h) X' (o'.hs h) ∧ o'.ts = o.ts ∧ o'.last = o.last ∧ p = (((1 + sumS pre : Nat) : Int),0) ∧ DOK o'.d (allocB pre m s post) ∧
   o'.d.W = over (mkW (allocW o.d.W (1 + sumS pre) m s) (1 + sumS pre) sh id (runesZ t).length) (1 + sumS pre + 3) (runesZ t) := by
 obtain ⟨o1,r1,m1,t1,l1,hp7⟩ := q
 rcases hp7 with ⟨g0,_⟩ | ⟨g0,g1,rfl,rfl⟩ | ⟨g0,g1,g2,rfl,rfl⟩ | ⟨sh',m',s',pre',post',g0,g1,g2,g3,g4,g5,g6,rfl,g8,g9,g10⟩
 ·exact absurd he g0
 ·rw [hb] at g1; exact absurd rfl g1
 ·have : (bestR o1.d.L (m : Int)).2 = true := (fits_iff hd _).2 ⟨by omega,by omega,1 + sumS pre,s,by rw [b.e]; exact walk_three.2 (.inr (.inl rfl)),by have := b.le; omega⟩
  unfold fitsR at g2
  rw [hb,if_pos rfl,this] at g2; cases g2
 ·have : m' = m := by
   have := congrArg Prod.fst (g1.symm.trans hb)
   simp only at this; omega
  subst this
  obtain ⟨rfl,rfl,rfl⟩ := b.uniq hd.w.sz g6
  cases hsh.symm.trans g5
  exact ⟨o1,r1,m1,t1,l1,rfl,g8,g9⟩

theorem ORegQ.ok {t : Int × List Bool} {p : Int × Int} {s : Shp} (q : ORegQ X h o t p X') (he : regE o t = 0) (hs : shapeR t = some s) :
  ∃ o',RepH X' h o' ∧ Mv X (o.hs h) X' (o'.hs h) ∧ p = (o.last + 1,0) ∧ o' = { o with ts := mset (eqI (o.last + 1)) (o.last + 1) s o.ts,last := o.last + 1 } := by
 obtain ⟨o',r,m,⟨g,_⟩ | ⟨s',g1,g2,g3,g4⟩⟩ := q
 ·exact absurd he g
 ·cases hs.symm.trans g2
  exact ⟨o',r,m,g3,g4⟩

theorem ONewQ.ok {n : Int} {p : Option Nat × Int} {m : Nat} (q : ONewQ X n p X') (e : n = m) (h1 : 16 ≤ m ∧ m ≤ 1048576) :
  ∃ h o,p = (some h,0) ∧ RepH X' h o ∧ Mv X [] X' (o.hs h) ∧ DOK o.d [(m - 1,false)] ∧ o.d.W = newW m ∧ o.ts = [] ∧ o.last = 0 := by
 rcases q with ⟨g,_⟩ | ⟨m',h,o,e',g1,g2,g3,g4,g5,g6,g7,g8,g9⟩
 ·exact absurd (by omega) g
 ·have : m' = m := by omega
  subst this
  exact ⟨h,o,g3,g4,g5,g6,g7,g8,g9⟩

abbrev shA : Shp := .plain [false,true]
abbrev shT : Shp := .row 4
abbrev exTs : List (Int × Shp) := [(1,shA),(2,shT)]
def exW1 : List Int := mkW (allocW (newW 40) 1 3 39) 1 shA 1 0
def exW2 : List Int := over (mkW (allocW exW1 5 4 35) 5 shT 2 2) 8 [104,233]
abbrev exB : List Bl := [(4,true),(5,true),(30,false)]

theorem exRunes : runesZ [104,195,169] = [104,233] := by decide +kernel
theorem exValid : Lib.validD [104,195,169] = true := by decide +kernel

end Go.Proofs.YtdcljlafookliaaDoor.AB

namespace Go.Proofs.YtdcljlafookliaaDoor.AB
open Go

def exW3 : List Int := exW2.set 4 5

theorem ex_b1 {o : OD} (ht : o.ts = exTs) : bodyR o 1 0 = (((3:Nat) : Int),0) := by
 obtain ⟨t0,⟨a0,a1,a2,a3,W0,a4,a5,a6,a7⟩,a8,ts0,l0⟩ := o
 dsimp only at ht
 subst ht
 kernel_rfl
theorem ex_b2 {o : OD} (ht : o.ts = exTs) : bodyR o 2 (2:Nat) = (((4:Nat) : Int),0) := by
 obtain ⟨t0,⟨a0,a1,a2,a3,W0,a4,a5,a6,a7⟩,a8,ts0,l0⟩ := o
 dsimp only at ht
 subst ht
 kernel_rfl
theorem ex_f1 {o : OD} (ht : o.ts = exTs) : tfind o.ts 1 = some shA := by
 obtain ⟨t0,⟨a0,a1,a2,a3,W0,a4,a5,a6,a7⟩,a8,ts0,l0⟩ := o
 dsimp only at ht
 subst ht
 kernel_rfl
theorem ex_f2 {o : OD} (ht : o.ts = exTs) : tfind o.ts 2 = some shT := by
 obtain ⟨t0,⟨a0,a1,a2,a3,W0,a4,a5,a6,a7⟩,a8,ts0,l0⟩ := o
 dsimp only at ht
 subst ht
 kernel_rfl
theorem ex_e2 {o : OD} (ht : o.ts = exTs) : textE o 2 [104,195,169] = 0 := by
 unfold textE
 rw [ex_f2 ht]
 simp only [exValid,exRunes,Shp.kind]
 decide
theorem ex_r0 : rawR exW2 2 = (1,true) := by kernel_rfl
theorem ex_r1 : rawR exW2 6 = (2,true) := by kernel_rfl
theorem ex_r2 : rawR exW2 7 = (2,true) := by kernel_rfl
theorem ex_r3 : rawR exW2 8 = (104,true) := by kernel_rfl
theorem ex_p1 {o : OD} (hw : o.d.W = exW2) (ht : o.ts = exTs) : putE o exB 1 1 5 = 0 := by
 obtain ⟨t0,⟨a0,a1,a2,a3,W0,a4,a5,a6,a7⟩,a8,ts0,l0⟩ := o
 dsimp only at hw ht
 subst hw ht
 kernel_rfl
theorem ex_p1b {o : OD} (hw : o.d.W = exW2) (ht : o.ts = exTs) : putB o exB 1 1 5 = true := by
 obtain ⟨t0,⟨a0,a1,a2,a3,W0,a4,a5,a6,a7⟩,a8,ts0,l0⟩ := o
 dsimp only at hw ht
 subst hw ht
 kernel_rfl
theorem ex_p1w {o : OD} (hw : o.d.W = exW2) (ht : o.ts = exTs) : writeW o.d.W exB 1 (slotR o exB 1 1).1 5 = exW3 := by
 obtain ⟨t0,⟨a0,a1,a2,a3,W0,a4,a5,a6,a7⟩,a8,ts0,l0⟩ := o
 dsimp only at hw ht
 subst hw ht
 kernel_rfl
theorem ex_p2 {o : OD} (hw : o.d.W = exW3) (ht : o.ts = exTs) : putE o exB 1 1 4 = 18 := by
 obtain ⟨t0,⟨a0,a1,a2,a3,W0,a4,a5,a6,a7⟩,a8,ts0,l0⟩ := o
 dsimp only at hw ht
 subst hw ht
 kernel_rfl
theorem ex_p2b {o : OD} (hw : o.d.W = exW3) (ht : o.ts = exTs) : putB o exB 1 1 4 = false := by
 obtain ⟨t0,⟨a0,a1,a2,a3,W0,a4,a5,a6,a7⟩,a8,ts0,l0⟩ := o
 dsimp only at hw ht
 subst hw ht
 kernel_rfl
theorem ex_g1 {o : OD} (hw : o.d.W = exW3) (ht : o.ts = exTs) : getR o exB 1 1 = (5,true,0) := by
 obtain ⟨t0,⟨a0,a1,a2,a3,W0,a4,a5,a6,a7⟩,a8,ts0,l0⟩ := o
 dsimp only at hw ht
 subst hw ht
 kernel_rfl
theorem ex_g2 {o : OD} (hw : o.d.W = exW3) (ht : o.ts = exTs) : (getR o exB 1 2).2.2 = 1 := by
 obtain ⟨t0,⟨a0,a1,a2,a3,W0,a4,a5,a6,a7⟩,a8,ts0,l0⟩ := o
 dsimp only at hw ht
 subst hw ht
 kernel_rfl
theorem ex_p3 {o : OD} (hw : o.d.W = exW3) (ht : o.ts = exTs) : putE o exB 5 0 1 = 18 := by
 obtain ⟨t0,⟨a0,a1,a2,a3,W0,a4,a5,a6,a7⟩,a8,ts0,l0⟩ := o
 dsimp only at hw ht
 subst hw ht
 kernel_rfl
theorem ex_p3b {o : OD} (hw : o.d.W = exW3) (ht : o.ts = exTs) : putB o exB 5 0 1 = false := by
 obtain ⟨t0,⟨a0,a1,a2,a3,W0,a4,a5,a6,a7⟩,a8,ts0,l0⟩ := o
 dsimp only at hw ht
 subst hw ht
 kernel_rfl
theorem ex_t {o : OD} (hw : o.d.W = exW3) (ht : o.ts = exTs) : textR o exB 5 = ([104,195,169],true) := by
 obtain ⟨t0,⟨a0,a1,a2,a3,W0,a4,a5,a6,a7⟩,a8,ts0,l0⟩ := o
 dsimp only at hw ht
 subst hw ht
 kernel_rfl
theorem ex_n {o : OD} (hw : o.d.W = exW3) (ht : o.ts = exTs) : lenR o exB 5 = (2,true) := by
 obtain ⟨t0,⟨a0,a1,a2,a3,W0,a4,a5,a6,a7⟩,a8,ts0,l0⟩ := o
 dsimp only at hw ht
 subst hw ht
 kernel_rfl
theorem ex_n1 {o : OD} (hw : o.d.W = exW3) (ht : o.ts = exTs) : lenR o exB 1 = (2,true) := by
 obtain ⟨t0,⟨a0,a1,a2,a3,W0,a4,a5,a6,a7⟩,a8,ts0,l0⟩ := o
 dsimp only at hw ht
 subst hw ht
 kernel_rfl
theorem ex_i {o : OD} (hw : o.d.W = exW3) (ht : o.ts = exTs) : (idR o exB 9).2 = false := by
 obtain ⟨t0,⟨a0,a1,a2,a3,W0,a4,a5,a6,a7⟩,a8,ts0,l0⟩ := o
 dsimp only at hw ht
 subst hw ht
 kernel_rfl
theorem ex_rf {o : OD} (hw : o.d.W = exW3) (ht : o.ts = exTs) : refsR o exB 1 = [5] := by
 obtain ⟨t0,⟨a0,a1,a2,a3,W0,a4,a5,a6,a7⟩,a8,ts0,l0⟩ := o
 dsimp only at hw ht
 subst hw ht
 kernel_rfl

theorem p7 : PC Tryd.prog 7 [] (.bool true) := by
 refine lawOf (X := X7) rfl FN7 (by kernel_rfl) (by decide) (E7 ((c8 _ 40 (by decide)).mono ?_))
 intro p1 X2 q1
 obtain ⟨h,o0,rfl,r0,_,d0,w0,t0,l0⟩ := q1.ok (m := 40) rfl (by decide)
 refine ⟨fun e => (by cases e),fun _ => ⟨fun e => (by cases e),fun _ => ?_⟩⟩
 refine (c10 r0 (1,[false,true]) (by decide) (by omega)).mono ?_
 intro p3 X4 q3
 obtain ⟨o1,r1,_,rfl,e1⟩ := q3.ok (s := shA) (by unfold regE; rw [if_neg (by decide),if_neg (by rw [l0]; decide)]) (by kernel_rfl)
 have d1 : DOK o1.d [(39,false)] := by rw [e1]; exact d0
 have w1 : o1.d.W = newW 40 := by rw [e1]; exact w0
 have l1 : o1.last = 1 := by rw [e1]; show o0.last + 1 = 1; omega
 have t1 : o1.ts = [(1,shA)] := by rw [e1]; show mset (eqI (o0.last + 1)) (o0.last + 1) shA o0.ts = _; rw [l0,t0]; rfl
 refine (c10 r1 (4,[]) (by decide) (by omega)).mono ?_
 intro p5 X6 q5
 obtain ⟨o2,r2,_,rfl,e2⟩ := q5.ok (s := shT) (by unfold regE; rw [if_neg (by decide),if_neg (by rw [l1]; decide)]) (by kernel_rfl)
 have d2 : DOK o2.d [(39,false)] := by rw [e2]; exact d1
 have w2 : o2.d.W = newW 40 := by rw [e2]; exact w1
 have t2 : o2.ts = exTs := by rw [e2]; show mset (eqI (o1.last + 1)) (o1.last + 1) shT o1.ts = _; rw [l1,t1]; rfl
 rw [l0,l1]
 refine (c15 r2 d2 1 0).mono ?_
 intro p7 X8 q7
 have b1 : BestAt [(39,false)] 3 [] 39 [] := ⟨rfl,by decide,fun p' s' hm _ => by simp [walk] at hm; simp [sumS]; omega⟩
 obtain ⟨o3,r3,_,t3,_,rfl,d3,w3,_⟩ := q7.ok d2 (ex_f1 t2) (ex_b1 t2) (by decide) b1
 have e3 : allocB [] 3 39 [] = [(4,true),(35,false)] := by decide
 rw [e3] at d3
 rw [w2] at w3
 have w3 : o3.d.W = exW1 := w3
 rw [t2] at t3
 refine (c11 r3 d3 2 [104,195,169] (by decide) (fun q hq _ => ?_)).mono ?_
 ·cases (ex_f2 t3).symm.trans hq; rfl
 intro p9 X10 q9
 have b2 : BestAt [(4,true),(35,false)] 4 [(4,true)] 35 [] := ⟨rfl,by decide,fun p' s' hm _ => by simp [walk] at hm; simp [sumS]; omega⟩
 obtain ⟨o4,r4,_,t4,_,rfl,d4,w4⟩ := q9.ok d3 (ex_e2 t3) (ex_f2 t3) (by rw [exRunes]; exact ex_b2 t3) (by decide) b2
 have e4 : allocB [(4,true)] 4 35 [] = exB := by decide
 rw [e4] at d4
 rw [w3,exRunes] at w4
 have w4 : o4.d.W = exW2 := w4
 rw [t3] at t4
 refine ⟨_,c25 r4 2,_,c25 r4 6,_,c25 r4 7,_,c25 r4 8,?_⟩
 rw [w4,ex_r0,ex_r1,ex_r2,ex_r3]
 refine ⟨fun e => absurd e (by decide),fun _ => ⟨fun e => absurd e (by decide),fun _ => ⟨fun e => absurd e (by decide),fun _ => ⟨fun e => absurd e (by decide),fun _ => ⟨fun e => absurd e (by decide),fun _ => ⟨fun e => absurd e (by decide),fun _ =>
  ⟨fun e => absurd e (by decide),fun _ => ⟨fun e => absurd e (by decide),fun _ => ⟨fun e => absurd e (by decide),fun _ => ⟨fun e => absurd e (by decide),fun _ => ?_⟩⟩⟩⟩⟩⟩⟩⟩⟩⟩
 refine (c18 r4 d4 1 1 5).mono ?_
 rintro p15 X16 ⟨rfl,o5,r5,_,d5,e5⟩
 rw [ex_p1b w4 t4,if_pos rfl] at e5
 have w5 : o5.d.W = exW3 := by rw [e5]; exact ex_p1w w4 t4
 have t5 : o5.ts = exTs := by rw [e5]; exact t4
 refine (c18 r5 d5 1 1 4).mono ?_
 rintro p17 X18 ⟨rfl,o6,r6,_,d6,e6⟩
 rw [ex_p2b w5 t5] at e6
 have e6 : o6 = o5 := e6
 subst e6
 refine ⟨_,c17 r6 d6 1 1,_,c17 r6 d6 1 2,?_⟩
 refine (c18 r6 d6 5 0 1).mono ?_
 rintro p21 X22 ⟨rfl,o7,r7,_,d7,e7⟩
 rw [ex_p3b w5 t5] at e7
 have e7 : o7 = o6 := e7
 subst e7
 refine ⟨_,c12 r7 d7 5 (by rw [ex_n w5 t5]; decide) (by rw [ex_n w5 t5]; decide),_,c13 r7 d7 5,_,c19 r7 d7 9,_,c14 r7 d7 1 (by rw [ex_n1 w5 t5]; decide) (by rw [ex_n1 w5 t5]; decide),_,p26 _ _ (by rw [ex_rf w5 t5]; decide),?_⟩
 rw [ex_p1 w4 t4,ex_p2 w5 t5,ex_g1 w5 t5,ex_g2 w5 t5,ex_p3 w5 t5,ex_t w5 t5,ex_n w5 t5,ex_i w5 t5,ex_rf w5 t5]
 refine ⟨fun _ => ⟨fun _ => ⟨fun _ => ⟨fun _ => ⟨fun _ => ⟨fun _ => ⟨fun _ => ⟨fun _ => ⟨fun _ => ⟨fun _ => ⟨fun _ => ⟨rfl,rfl⟩,fun e => ?_⟩,fun e => ?_⟩,fun e => ?_⟩,fun e => ?_⟩,fun e => ?_⟩,fun e => ?_⟩,fun e => ?_⟩,fun e => ?_⟩,fun e => ?_⟩,fun e => ?_⟩,fun e => ?_⟩
 all_goals exact absurd e (by decide)

end Go.Proofs.YtdcljlafookliaaDoor.AB

namespace Go.Proofs.YtdcljlafookliaaDoor.AB
open Go

variable {X X' : XH} {h : Nat} {o : OD} {bs : List Bl}

theorem OFreeQ.ok {pre post : List Bl} {s : Nat} {a p : Int} (q : OFreeQ X h o bs a p X') (hd : DOK o.d bs) (e : bs = pre ++ (s,true) :: post) (ea : a = ((1 + sumS pre : Nat) : Int)) :
  ∃ o',RepH X' h o' ∧ Mv X (o.hs h) X' (o'.hs h) ∧ p = 0 ∧ o'.ts = o.ts ∧ o'.last = o.last ∧ DOK o'.d (freeB pre s post) ∧ ∀ a',ob o'.d.W (freeB pre s post) a' = if a' = a then none else ob o.d.W bs a' := by
 obtain ⟨d',r,mv,⟨hn,_⟩ | ⟨pre',s',post',e',ea',q1,q2,q3⟩⟩ := q
 ·exact absurd ea (hn _ s (by rw [e]; exact walk_three.2 (.inr (.inl rfl))))
 ·have hz := hd.w.sz
  rw [e] at hz
  obtain ⟨e1,e2,e3⟩ := split_uniq hz (e.symm.trans e') (by omega)
  cases e2
  subst e1 e3
  refine ⟨_,r,mv,q1,rfl,rfl,q3,fun a' => ?_⟩
  have hw := hd.w
  rw [e] at hw
  have := ob_free hw a'
  show ob d'.W _ a' = _
  rw [q2,this,e,ea]

theorem ob_split {W : List Int} (h : WOK W bs) {a : Int} {b : List Int} (e : ob W bs a = some b) : ∃ pre s post,bs = pre ++ (s,true) :: post ∧ a = ((1 + sumS pre : Nat) : Int) := by
 obtain ⟨p,s,rfl,hm,_⟩ := ob_some h e
 obtain ⟨pre,post,e1,e2⟩ := walk_split hm
 exact ⟨pre,s,post,e1,by rw [e2]⟩

theorem mkBody_len (sh : Shp) (id n : Int) (L : Nat) : (mkBody sh id n L).length = L := by
 cases sh <;> simp [mkBody]

end Go.Proofs.YtdcljlafookliaaDoor.AB

namespace Go.Proofs.YtdcljlafookliaaDoor.AB
open Go

variable {X X' : XH} {h : Nat} {o : OD} {bs : List Bl}

theorem objR_of (hd : DOK o.d bs) {a : Int} {b : List Int} (e : ob o.d.W bs a = some b) : objR o bs a = tfind o.ts (b.getD 0 0) := by
 obtain ⟨p,s,_,_,_,hl,_,h2,_⟩ := ob_some hd.w e
 have hr := readR_some hd.w e 0
 rw [if_pos (by constructor <;> omega)] at hr
 unfold objR
 rw [hr,if_pos rfl]
 rfl

theorem objR_non (hd : DOK o.d bs) {a : Int} (e : ob o.d.W bs a = none) : objR o bs a = none := by
 unfold objR
 rw [readR_none hd.w e,if_neg (by decide)]

theorem word_of (hd : DOK o.d bs) {a : Int} {b : List Int} (e : ob o.d.W bs a = some b) {k : Nat} (hk : k < b.length) : readR o.d.W bs a (k : Nat) = (b.getD k 0,0) := by
 rw [readR_some hd.w e,if_pos (by omega),Int.toNat_natCast]

theorem ob_addr (hd : DOK o.d bs) {a : Int} {b : List Int} (e : ob o.d.W bs a = some b) : 1 ≤ a ∧ a ≤ 1048576 ∧ 1 ≤ b.length ∧ b.length ≤ 1048576 := by
 obtain ⟨p,s,rfl,_,_,hl,h1,h2,h3⟩ := ob_some hd.w e
 have := hd.w.le
 omega

theorem getI_set {l : List Int} {i j : Nat} {v : Int} (h : i < l.length) : (l.set i v).getD j 0 = if j = i then v else l.getD j 0 := by
 simp only [List.getD,List.getElem?_set]
 by_cases e : i = j
 ·subst e; simp [h]
 ·rw [if_neg e,if_neg (fun q => e q.symm)]

theorem getD_zeros (n j : Nat) : (List.replicate n (0:Int)).getD j 0 = 0 := by
 simp only [List.getD,List.getElem?_replicate]
 split <;> rfl

theorem mkRow_get {k id n : Int} {L : Nat} (hL : 2 ≤ L) (j : Nat) : (mkBody (.row k) id n L).getD j 0 = if j = 1 then n else if j = 0 then id else 0 := by
 show (((List.replicate L (0:Int)).set 0 id).set 1 n).getD j 0 = _
 rw [getI_set (by simp; omega),getI_set (by simp; omega),getD_zeros]

theorem mkPlain_get {r : List Bool} {id n : Int} {L : Nat} (hL : 1 ≤ L) (j : Nat) : (mkBody (.plain r) id n L).getD j 0 = if j = 0 then id else 0 := by
 show ((List.replicate L (0:Int)).set 0 id).getD j 0 = _
 rw [getI_set (by simp; omega),getD_zeros]

theorem row_slot (hd : DOK o.d bs) {a k n : Int} {b : List Int} (e : ob o.d.W bs a = some b) (ht : tfind o.ts (b.getD 0 0) = some (.row k)) (h1 : b.getD 1 0 = n) (hn : n + 2 ≤ b.length) (hl : 2 ≤ b.length) {i : Nat} (hi : (i : Int) < n) :
  slotR o bs a (i : Nat) = (((2 + i : Nat) : Int),k == 3,0) ∧ placeR bs a ((2 + i : Nat) : Int) = (a + 1 + ((2 + i : Nat) : Int),0) ∧ getR o bs a (i : Nat) = (b.getD (2 + i) 0,k == 3,0) := by
 have ho := objR_of hd e
 rw [ht] at ho
 have hb := ob_addr hd e
 have hlen : lenS o bs a (.row k) = n := by
  show (readR o.d.W bs a 1).1 = n
  rw [show (1:Int) = ((1:Nat) : Int) from rfl,word_of hd e (by omega)]
  exact h1
 have hs : slotR o bs a (i : Nat) = (((2 + i : Nat) : Int),k == 3,0) := by
  rw [slotR_some ho,if_neg (by omega),hlen,if_neg (by omega)]
  unfold slotS
  simp only
  rw [w64 (by omega) (by omega)]
  refine Prod.ext ?_ rfl
  simp only; omega
 refine ⟨hs,?_,?_⟩
 ·obtain ⟨p,s,rfl,hm,_,hl',_⟩ := ob_some hd.w e
  rw [placeR_of hd.w hm,if_neg (by omega),if_neg (by omega)]
 ·unfold getR
  simp only [hs,if_true]
  rw [word_of hd e (by omega)]

theorem plain_slot (hd : DOK o.d bs) {a : Int} {r : List Bool} {b : List Int} (e : ob o.d.W bs a = some b) (ht : tfind o.ts (b.getD 0 0) = some (.plain r)) (hn : r.length + 1 ≤ b.length) {i : Nat} (hi : i < r.length) :
  slotR o bs a (i : Nat) = (((1 + i : Nat) : Int),r.getD i false,0) ∧ placeR bs a ((1 + i : Nat) : Int) = (a + 1 + ((1 + i : Nat) : Int),0) ∧ getR o bs a (i : Nat) = (b.getD (1 + i) 0,r.getD i false,0) := by
 have ho := objR_of hd e
 rw [ht] at ho
 have hb := ob_addr hd e
 have hs : slotR o bs a (i : Nat) = (((1 + i : Nat) : Int),r.getD i false,0) := by
  have hlen : lenS o bs a (.plain r) = ((r.length : Nat) : Int) := rfl
  rw [slotR_some ho,if_neg (by omega),hlen,if_neg (by omega)]
  unfold slotS
  simp only
  rw [w64 (by omega) (by omega),Int.toNat_natCast]
  refine Prod.ext ?_ rfl
  simp only; omega
 refine ⟨hs,?_,?_⟩
 ·obtain ⟨p,s,rfl,hm,_,hl',_⟩ := ob_some hd.w e
  rw [placeR_of hd.w hm,if_neg (by omega),if_neg (by omega)]
 ·unfold getR
  simp only [hs,if_true]
  rw [word_of hd e (by omega)]

theorem ob_write (hd : DOK o.d bs) {a v : Int} {b : List Int} (e : ob o.d.W bs a = some b) {k : Nat} (hk : k < b.length) (hd' : WOK (writeW o.d.W bs a (k : Nat) v) bs) (a' : Int) :
  ob (writeW o.d.W bs a (k : Nat) v) bs a' = if a' = a then some (b.set k v) else ob o.d.W bs a' := by
 obtain ⟨p,s,rfl,hm,rfl,hl,_⟩ := ob_some hd.w e
 have hw := (writeW_of hd.w hm (k := k) (by omega) v).2
 rw [hw] at hd' ⊢
 exact ob_set hd.w hm (by omega) v hd' a'

theorem OPutQ.ok {a i v p : Int} {k : Nat} {b : List Int} {q : Shp} {rf : Bool} (Q : OPutQ X h o bs a i v p X') (hd : DOK o.d bs) (e : ob o.d.W bs a = some b) (ho : objR o bs a = some q) (hs : slotR o bs a i = (((k : Nat) : Int),rf,0)) (hk : k < b.length)
  (hc : ¬ (q.kind = 4 ∨ (rf = true ∧ v ≠ 0 ∧ (idR o bs v).2 = false))) :
  p = 0 ∧ ∃ o',RepH X' h o' ∧ Mv X (o.hs h) X' (o'.hs h) ∧ o'.ts = o.ts ∧ o'.last = o.last ∧ DOK o'.d bs ∧ ∀ a',ob o'.d.W bs a' = if a' = a then some (b.set k v) else ob o.d.W bs a' := by
 obtain ⟨rfl,o',r,m,d',e'⟩ := Q
 have hB : putB o bs a i v = true := by
  unfold putB; simp only [hs,ho,decide_true,Bool.true_and,decide_eq_false hc,Bool.not_false]
 have hP : putE o bs a i v = (placeR bs a (k : Nat)).2 := by
  unfold putE; simp only [hs,ho,if_true,if_neg hc]
 rw [hB,if_pos rfl,hs] at e'
 obtain ⟨p,s,rfl,hm,_,hl,_⟩ := ob_some hd.w e
 refine ⟨?_,o',r,m,by rw [e']; rfl,by rw [e']; rfl,d',fun a' => ?_⟩
 ·rw [hP,(writeW_of hd.w hm (k := k) (by omega) v).1]
 ·have hw := d'.w
  rw [e'] at hw ⊢
  exact ob_write hd e hk hw a'

theorem OPutQ.no {a i v p : Int} {q : Shp} (Q : OPutQ X h o bs a i v p X') (ho : objR o bs a = some q) (hs : (slotR o bs a i).2.2 = 0)
  (hc : q.kind = 4 ∨ ((slotR o bs a i).2.1 = true ∧ v ≠ 0 ∧ (idR o bs v).2 = false)) : p = 18 ∧ RepH X' h o ∧ Mv X (o.hs h) X' (o.hs h) ∧ DOK o.d bs := by
 obtain ⟨rfl,o',r,m,d',e'⟩ := Q
 have hB : putB o bs a i v = false := by
  unfold putB; simp only [hs,ho,decide_true,Bool.true_and,decide_eq_true hc,Bool.not_true]
 rw [hB] at e'
 have e' : o' = o := e'
 subst e'
 refine ⟨?_,r,m,d'⟩
 unfold putE; simp only [hs,ho,if_true,if_pos hc]

def fitL (sh : Shp) (n : Int) (L : Nat) : Prop :=
 match sh with
 | .row _ => 0 ≤ n ∧ n + 2 ≤ (L : Int)
 | .plain r => r.length + 1 ≤ L ∧ 2 ≤ L
 | .single _ => 2 ≤ L

theorem best_none {W : List Int} (hw : WOK W bs) {pre post : List Bl} {m s : Nat} (hb : BestAt bs m pre s post) : ob W bs ((1 + sumS pre : Nat) : Int) = none := by
 refine (ob_none hw).2 fun p s' hm e => ?_
 have hin : (1 + sumS pre,s,false) ∈ walk 1 bs := by rw [hb.e]; exact walk_three.2 (.inr (.inl rfl))
 have : p = 1 + sumS pre := by omega
 subst this
 exact absurd (walk_inj hw.sz hm hin).2 (by simp)

theorem OMakeQ.cases {id n : Int} {p : Int × Int} (q : OMakeQ X h o bs id n p X') (hd : DOK o.d bs) (hr : ∀ r,tfind o.ts id = some (.plain r) → r.length ≤ 1048576) :
  (p.2 ≠ 0 ∧ p.1 = 0 ∧ RepH X' h o ∧ Mv X (o.hs h) X' (o.hs h) ∧ ((bodyR o id n).2 = 0 → p.2 = 23 ∧ fitsR o id n = false)) ∨
  ∃ (o' : OD) (bs' : List Bl) (sh : Shp) (L : Nat),RepH X' h o' ∧ Mv X (o.hs h) X' (o'.hs h) ∧ DOK o'.d bs' ∧ o'.ts = o.ts ∧ o'.last = o.last ∧ p.2 = 0 ∧ tfind o.ts id = some sh ∧ ob o.d.W bs p.1 = none ∧
   fitL sh n L ∧ ∀ a,ob o'.d.W bs' a = if a = p.1 then some (mkBody sh id n L) else ob o.d.W bs a := by
 obtain ⟨o1,r1,m1,t1,l1,hp7⟩ := q
 rcases hp7 with ⟨g1,rfl,rfl⟩ | ⟨g1,g2,rfl,rfl⟩ | ⟨sh,m,s,pre,post,g1,g2,g3,g4,g5,g6,rfl,g8,g9,g10⟩
 ·exact .inl ⟨g1,rfl,r1,m1,fun e => absurd e g1⟩
 ·exact .inl ⟨by simp,rfl,r1,m1,fun _ => ⟨rfl,g2⟩⟩
 ·have hS : m + 1 ≤ allocS m s := by
   have := g6.le
   unfold allocS; split <;> omega
  refine .inr ⟨o1,_,sh,allocS m s - 1,r1,m1,g8,t1,l1,rfl,g5,best_none hd.w g6,?_,g10⟩
  obtain ⟨s',hs',b0,b1,b2⟩ := bodyR_ok (o := o) (id := id) (n := n) (by rw [g1])
  cases hs'.symm.trans g5
  have hb := b2.symm.trans g1
  cases sh with
  | row k =>
   have := congrArg Prod.fst hb
   simp only [bodyS] at this
   rw [w64 (by omega) (by omega)] at this
   exact ⟨b0,by omega⟩
  | plain r =>
   have hl := hr r g5
   unfold bodyS at hb
   simp only at hb
   split at hb
   ·have := congrArg Prod.fst hb
    simp only at this
    split at this
    ·rw [w64 (by omega) (by omega)] at this
     exact ⟨by omega,by omega⟩
    ·rw [w64 (by omega) (by omega)] at this
     exact ⟨by omega,by omega⟩
   ·cases hb
  | single k =>
   unfold bodyS at hb
   simp only at hb
   split at hb
   ·have := congrArg Prod.fst hb
    simp only at this
    show 2 ≤ _
    omega
   ·cases hb

theorem slot_err (hd : DOK o.d bs) {a i : Int} (ho : objR o bs a = none) : getR o bs a i = (0,false,24) ∧ lenR o bs a = (0,false) ∧ idR o bs a = (0,false) ∧ refsR o bs a = [] := by
 refine ⟨?_,lenR_none ho,idR_none ho,refsR_none ho⟩
 unfold getR
 rw [slotR_none ho]
 rfl

end Go.Proofs.YtdcljlafookliaaDoor.AB

namespace Go.Proofs.YtdcljlafookliaaDoor.AB
open Go

theorem wrapi32_id {v : Int} (h : 0 ≤ v ∧ v ≤ 1114111) : IntKind.wrap .i32 v = v := by
 have e : IntKind.wrap .i32 v = (if 2147483648 ≤ v % 4294967296 then v % 4294967296 - 4294967296 else v % 4294967296) := by
  simp [IntKind.wrap,IntKind.bits,IntKind.signed]
 rw [e]; split <;> omega

theorem ofBytes_app (a b : List Int) : ofBytes (a ++ b) = ofBytes a ++ ofBytes b := by simp [ofBytes]
theorem ofBytes_enc (v : Int) : ofBytes (Lib.encodeRuneZ v) = Lib.encodeRune v := rfl

theorem valid_ind {P : List UInt8 → Prop} (h0 : P []) (hs : ∀ l,l ≠ [] → ¬ ((Lib.decodeL l).1 = 65533 ∧ (Lib.decodeL l).2 = 1) → P (l.drop (Lib.decodeL l).2) → P l) : ∀ l,Lib.validD l = true → P l := by
 have : ∀ (n : Nat) (l : List UInt8),l.length ≤ n → Lib.validD l = true → P l := by
  intro n
  induction n with
  | zero =>
   intro l hl _
   have : l = [] := List.length_eq_zero_iff.1 (by omega)
   subst this; exact h0
  | succ n ih =>
   intro l hl hv
   by_cases e : l = []
   ·subst e; exact h0
   ·rw [Lib.validD_step l e] at hv
    by_cases c : (Lib.decodeL l).1 = 65533 ∧ (Lib.decodeL l).2 = 1
    ·rw [if_pos c] at hv; cases hv
    ·rw [if_neg c] at hv
     have hw := Lib.decodeL_width l
     exact hs l e c (ih _ (by rw [List.length_drop]; omega) hv)
 exact fun l => this _ l (Nat.le_refl _)

theorem text_back (l : List UInt8) (hv : Lib.validD l = true) : ofBytes ((runesZ l).flatMap fun v => Lib.encodeRuneZ (IntKind.wrap .i32 v)) = l := by
 refine valid_ind (P := fun l => ofBytes ((runesZ l).flatMap fun v => Lib.encodeRuneZ (IntKind.wrap .i32 v)) = l) rfl (fun l hne hc ih => ?_) l hv
 have hr := Lib.decodeL_rune l
 show ofBytes ((runesZ l).flatMap fun v => Lib.encodeRuneZ (IntKind.wrap .i32 v)) = l
 rw [runesZ_step hne,List.flatMap_cons,ofBytes_app,ih,wrapi32_id (by omega),ofBytes_enc,Lib.encode_decode l hne hc,List.take_append_drop]

def isLead (b : UInt8) : Bool := decide (b.toNat < 128) || decide (192 ≤ b.toNat)
def leadC (l : List UInt8) : Nat := (l.filter isLead).length

theorem leadC_app (a b : List UInt8) : leadC (a ++ b) = leadC a + leadC b := by simp [leadC]

theorem lead_step (l : List UInt8) (hne : l ≠ []) (hc : ¬ ((Lib.decodeL l).1 = 65533 ∧ (Lib.decodeL l).2 = 1)) : leadC (l.take (Lib.decodeL l).2) = 1 := by
 have hl : 0 < l.length := List.length_pos_iff.2 hne
 rw [Lib.decodeL_N] at hc ⊢
 have yes : ∀ b : UInt8,b.toNat < 128 ∨ 192 ≤ b.toNat → isLead b = true := fun b h => by
  unfold isLead; rcases h with h | h <;> simp [h]
 have no : ∀ b : UInt8,b.toNat / 64 = 2 → isLead b = false := fun b h => by
  unfold isLead
  rw [decide_eq_false (by omega),decide_eq_false (by omega)]; rfl
 rcases Lib.decodeN_shape l.length (l.getD 0 0).toNat (l.getD 1 0).toNat (l.getD 2 0).toNat (l.getD 3 0).toNat with ⟨c,e⟩ | ⟨c1,c2,c3,cv,e⟩ | ⟨c1,c2,c3,c4,cv,cs,e⟩ | ⟨c1,c2,c3,c4,c5,cv,cw,e⟩ | e
 ·rw [e]; dsimp only
  rw [Lib.takeA l hl]
  clear e hc
  generalize l.getD 0 0 = x0 at c ⊢
  simp [leadC,List.filter_cons,yes _ (.inl c)]
 ·rw [e]; dsimp only
  rw [Lib.takeB l c2]
  clear cv e hc
  generalize l.getD 0 0 = x0 at c1 ⊢
  generalize l.getD 1 0 = x1 at c3 ⊢
  simp [leadC,List.filter_cons,yes _ (.inr (show 192 ≤ x0.toNat by omega)),no _ c3]
 ·rw [e]; dsimp only
  rw [Lib.takeC l c2]
  clear cv cs e hc
  generalize l.getD 0 0 = x0 at c1 ⊢
  generalize l.getD 1 0 = x1 at c3 ⊢
  generalize l.getD 2 0 = x2 at c4 ⊢
  simp [leadC,List.filter_cons,yes _ (.inr (show 192 ≤ x0.toNat by omega)),no _ c3,no _ c4]
 ·rw [e]; dsimp only
  rw [Lib.takeD l c2]
  clear cv cw e hc
  generalize l.getD 0 0 = x0 at c1 ⊢
  generalize l.getD 1 0 = x1 at c3 ⊢
  generalize l.getD 2 0 = x2 at c4 ⊢
  generalize l.getD 3 0 = x3 at c5 ⊢
  simp [leadC,List.filter_cons,yes _ (.inr (show 192 ≤ x0.toNat by omega)),no _ c3,no _ c4,no _ c5]
 ·rw [e] at hc; exact absurd ⟨rfl,rfl⟩ hc

theorem lead_runes (l : List UInt8) (hv : Lib.validD l = true) : leadC l = (runesZ l).length := by
 refine valid_ind (P := fun l => leadC l = (runesZ l).length) rfl (fun l hne hc ih => ?_) l hv
 have h1 := lead_step l hne hc
 have h2 : leadC l = leadC (l.take (Lib.decodeL l).2) + leadC (l.drop (Lib.decodeL l).2) := by rw [← leadC_app,List.take_append_drop]
 show leadC l = (runesZ l).length
 rw [h2,h1,ih,runesZ_step hne,List.length_cons]; omega

theorem lead_take {l : List UInt8} {k : Nat} (hk : k < l.length) : leadC (l.take (k + 1)) = leadC (l.take k) + (if isLead (l.getD k 0) = true then 1 else 0) := by
 rw [List.take_succ_eq_append_getElem hk,leadC_app]
 have : l.getD k 0 = l[k] := by simp [List.getD,List.getElem?_eq_getElem hk]
 rw [this]
 simp only [leadC,List.filter_cons,List.filter_nil]
 split <;> simp_all

variable {X X' : XH} {h : Nat} {o : OD} {bs : List Bl}

structure TextAt (o : OD) (bs : List Bl) (a : Int) (t : List UInt8) : Prop where
 ex : ∃ b,ob o.d.W bs a = some b ∧ tfind o.ts (b.getD 0 0) = some (.row 4) ∧ b.getD 1 0 = (runesZ t).length ∧ (runesZ t).length + 2 ≤ b.length ∧ ∀ i,i < (runesZ t).length → b.getD (2 + i) 0 = (runesZ t).getD i 0
 v : Lib.validD t = true

theorem TextAt.tells {a : Int} {t : List UInt8} (q : TextAt o bs a t) (hd : DOK o.d bs) : textR o bs a = (t,true) ∧ lenR o bs a = (((leadC t : Nat) : Int),true) ∧ refsR o bs a = [] := by
 obtain ⟨⟨b,e,ht,hl,hL,hb⟩,hv⟩ := q
 have ho := objR_of hd e
 rw [ht] at ho
 have sl := fun (i : Nat) (hi : (i : Int) < ((runesZ t).length : Nat)) => row_slot hd e ht hl (by omega) (by omega) (i := i) hi
 have hlen : lenR o bs a = ((((runesZ t).length : Nat) : Int),true) := by
  rw [lenR_some ho]
  show ((readR o.d.W bs a 1).1,true) = _
  rw [show (1:Int) = ((1:Nat) : Int) from rfl,word_of hd e (by omega),hl]
 have hsl : slotsR o bs a = runesZ t := by
  unfold slotsR
  rw [hlen]
  refine List.ext_getElem (by simp) fun i h1 h2 => ?_
  have hi : i < (runesZ t).length := h2
  rw [List.getElem_map,List.getElem_range,(sl i (by omega)).2.2]
  show b.getD (2 + i) 0 = _
  rw [hb i hi]
  simp [List.getD,List.getElem?_eq_getElem hi]
 refine ⟨?_,?_,?_⟩
 ·rw [textR_some ho,if_pos (show (Shp.row 4).kind = 4 from rfl),hsl]
  unfold textTo
  rw [List.take_length,text_back t hv]
 ·rw [hlen,lead_runes t hv]
 ·rw [refsR_some ho,if_neg (by decide),hlen]
  unfold refsTo
  rw [List.filter_eq_nil_iff.2,List.map_nil]
  intro i hi
  have hi : i < (runesZ t).length := by simpa using hi
  rw [(sl i (by omega)).1]
  simp

theorem OTextQ.cases {id : Int} {t : List UInt8} {p : Int × Int} (q : OTextQ X h o bs id t p X') (hd : DOK o.d bs) (hf : tfind o.ts id = some (.row 4)) :
  ((p.2 = 4 ∨ p.2 = 23) ∧ RepH X' h o ∧ Mv X (o.hs h) X' (o.hs h)) ∨
  ∃ (o' : OD) (bs' : List Bl),RepH X' h o' ∧ Mv X (o.hs h) X' (o'.hs h) ∧ DOK o'.d bs' ∧ o'.ts = o.ts ∧ o'.last = o.last ∧ p.2 = 0 ∧ ob o.d.W bs p.1 = none ∧ TextAt o' bs' p.1 t ∧ ∀ a,a ≠ p.1 → ob o'.d.W bs' a = ob o.d.W bs a := by
 have hE : textE o id t = if Lib.validD t = true then (if (runesZ t).length ≤ 1048576 then 0 else 23) else 4 := by unfold textE; rw [hf]; rfl
 obtain ⟨o1,r1,m1,t1,l1,hp⟩ := q
 rcases hp with ⟨g0,rfl,rfl⟩ | ⟨g0,g1,rfl,rfl⟩ | ⟨g0,g1,g2,rfl,rfl⟩ | ⟨sh,m,s,pre,post,g0,g1,g2,g3,g4,g5,g6,rfl,g8,g9,g10⟩
 ·refine .inl ⟨?_,r1,m1⟩
  show textE o1 id t = 4 ∨ textE o1 id t = 23
  rw [hE] at g0 ⊢
  split
  ·rename_i c
   rw [if_pos c] at g0
   split
   ·rename_i c2; rw [if_pos c2] at g0; exact absurd rfl g0
   ·exact .inr rfl
  ·exact .inl rfl
 ·have hle : (runesZ t).length ≤ 1048576 := by
   rw [hE] at g0
   split at g0
   ·split at g0
    ·assumption
    ·cases g0
   ·cases g0
  exfalso
  rw [bodyR_some hf,if_neg (by omega),if_neg (by omega)] at g1
  exact g1 rfl
 ·exact .inl ⟨.inr rfl,r1,m1⟩
 ·have hv : Lib.validD t = true ∧ (runesZ t).length ≤ 1048576 := by
   rw [hE] at g0
   split at g0
   ·split at g0
    ·exact ⟨by assumption,by assumption⟩
    ·cases g0
   ·cases g0
  cases hf.symm.trans g5
  have hmem : (1 + sumS pre,allocS m s,true) ∈ walk 1 (allocB pre m s post) := (used_alloc g6 _ _).2 (.inr ⟨rfl,rfl⟩)
  have hS : m + 1 ≤ allocS m s := by
   have := g6.le
   unfold allocS; split <;> omega
  have hm2 : m = (runesZ t).length + 2 := by
   obtain ⟨s',hs',b0,b1,b2⟩ := bodyR_ok (o := o) (id := id) (n := (runesZ t).length) (by rw [g1])
   obtain rfl : s' = .row 4 := Option.some.inj (hs'.symm.trans hf)
   have := congrArg Prod.fst (b2.symm.trans g1)
   simp only [bodyS] at this
   rw [w64 (by omega) (by omega)] at this
   omega
  obtain ⟨b1,b2,b3⟩ := g8.w.bd hmem
  have hW : o1.d.W = over (((allocW o.d.W (1 + sumS pre) m s).set (1 + sumS pre + 1 + 0) id).set (1 + sumS pre + 1 + 1) ((runesZ t).length : Int)) (1 + sumS pre + 3) (runesZ t) := g9
  have hwl : o1.d.W.length = (allocW o.d.W (1 + sumS pre) m s).length := by
   have h1 : o1.d.W.length = 1 + sumS (allocB pre m s post) := g8.w.len
   have h2 := (hd.w.alloc g6 g2).1.len
   omega
  have hb : bodyW o1.d.W (1 + sumS pre) (allocS m s) = bodyW o1.d.W (1 + sumS pre) (allocS m s) := rfl
  have hov : 1 + sumS pre + 3 + (runesZ t).length ≤ (((allocW o.d.W (1 + sumS pre) m s).set (1 + sumS pre + 1 + 0) id).set (1 + sumS pre + 1 + 1) ((runesZ t).length : Int)).length := by
   simp only [List.length_set]; omega
  have get : ∀ k,k < allocS m s - 1 → (bodyW o1.d.W (1 + sumS pre) (allocS m s)).getD k 0 = o1.d.W.getD (1 + sumS pre + 1 + k) 0 := fun k hk => by
   simp only [List.getD]; rw [bodyW_get hk]
  refine .inr ⟨o1,_,r1,m1,g8,t1,l1,rfl,best_none hd.w g6,⟨⟨_,ob_of g8.w hmem,?_,?_,?_,fun i hi => ?_⟩,hv.1⟩,g10⟩
  ·rw [get 0 (by omega),t1]
   have : o1.d.W.getD (1 + sumS pre + 1 + 0) 0 = id := by
    rw [hW]
    simp only [List.getD]
    rw [over_get hov,if_neg (by omega),List.getElem?_set,if_neg (by omega),List.getElem?_set,if_pos rfl,if_pos (by omega)]
    rfl
   rw [this]; exact hf
  ·rw [get 1 (by omega),hW]
   simp only [List.getD]
   rw [over_get hov,if_neg (by omega),List.getElem?_set,if_pos rfl,if_pos (by rw [List.length_set]; omega)]
   rfl
  ·rw [bodyW_len b3 (by omega)]; omega
  ·rw [get (2 + i) (by omega),hW]
   simp only [List.getD]
   rw [over_get hov,if_pos (by omega)]
   congr 1
   congr 1
   omega

end Go.Proofs.YtdcljlafookliaaDoor.AB

set_option maxRecDepth 100000
set_option maxHeartbeats 2000000
namespace Go.Proofs.YtdcljlafookliaaDoor.AB
open Go
noncomputable def X3 : Cx := ⟨tt,[(7,[.cd .bool]),(9,[.cd (.int .i64)])],[(8,[(.ref yZ1),(.pure (.int .i64))]),(10,[(.pure (.int .i64)),(.pure (.int .i64))]),(11,[(.pure (.int .i64)),(.pure (.int .i64))]),(12,[(.pure .str),(.pure .bool)]),(13,[(.pure (.int .i64)),(.pure .bool)]),(14,[(.pure (.slice (.int .i64)))])],[(3,[(4,3,.xc),(7,2,.xc),(14,6,.xc),(23,5,.rd),(24,5,.rd),(31,21,.rd)])],[(3,[(0,mkM 169 0 [1,6,8,10,11,12],0),(2,mkM 169 0 [6,10,11,15],0),(4,mkM 169 0 [6,10,11,15,16,17,18,20,21],0)])],[]⟩
theorem FN3 : fnsB Tryd.prog X3.fns := (show True from trivial)
def M3_0 : List Bool × Nat := (mkM 169 0 [1,6,8,10,11,12],1)
def S3_0 (texts1 : List (List UInt8)) (h6 : Option Nat) (id8 : Int) (at10 : List Int) (at10k : Tok) (want11 : List (List UInt8)) (want11k : Tok) (i12 : Int) (hq0 : XH) (T : Toks) : St :=
  mkS 169 [(1,(.v (.list .str texts1 .no))),(6,(.ref h6 yZ1 0 [])),(8,(.v (.int .i64 id8))),(10,(.v (.list (.int .i64) at10 at10k))),(11,(.v (.list .str want11 want11k))),(12,(.v (.int .i64 i12)))] [(some (.heap hq0))] T
noncomputable def B3_0 : (Exit → St → Prop) → St → Prop := (awp X3.tt (callN Tryd.prog X3 0) (X3.md 3) 1 (X3.mk1 3) 0 (codeAt [1,1,1,1,1,1,1,1,0,1,0,0] (bd Tryd.f3)))
def M3_2 : List Bool × Nat := (mkM 169 0 [6,10,11,15],1)
def S3_2 (h6 : Option Nat) (at10 : List Int) (at10k : Tok) (want11 : List (List UInt8)) (want11k : Tok) (i15 : Int) (hq0 : XH) (T : Toks) : St :=
  mkS 169 [(6,(.ref h6 yZ1 0 [])),(10,(.v (.list (.int .i64) at10 at10k))),(11,(.v (.list .str want11 want11k))),(15,(.v (.int .i64 i15)))] [(some (.heap hq0))] T
noncomputable def B3_2 : (Exit → St → Prop) → St → Prop := (awp X3.tt (callN Tryd.prog X3 0) (X3.md 3) 1 (X3.mk1 3) 2 (codeAt [1,1,1,1,1,1,1,1,1,0,1,0,0] (bd Tryd.f3)))
def M3_4 : List Bool × Nat := (mkM 169 0 [6,10,11,15,16,17,18,20,21],1)
def S3_4 (h6 : Option Nat) (at10 : List Int) (at10k : Tok) (want11 : List (List UInt8)) (want11k : Tok) (i15 : Int) (s16 : List UInt8) (ok17 : Bool) (n18 : Int) (runes20 : Int) (k21 : Int) (hq0 : XH) (T : Toks) : St :=
  mkS 169 [(6,(.ref h6 yZ1 0 [])),(10,(.v (.list (.int .i64) at10 at10k))),(11,(.v (.list .str want11 want11k))),(15,(.v (.int .i64 i15))),(16,(.v (.str s16))),(17,(.v (.bool ok17))),(18,(.v (.int .i64 n18))),(20,(.v (.int .i64 runes20))),(21,(.v (.int .i64 k21)))] [(some (.heap hq0))] T
noncomputable def B3_4 : (Exit → St → Prop) → St → Prop := (awp X3.tt (callN Tryd.prog X3 0) (X3.md 3) 1 (X3.mk1 3) 4 (codeAt [1,1,1,1,1,1,1,1,1,0,1,0,0,1,0,0,1,1,1,0,1,0,0] (bd Tryd.f3)))
noncomputable def K3_0 (R : V → Prop) : Exit → St → Prop := seqK ((awp X3.tt (callN Tryd.prog X3 0) (X3.md 3) 1 (X3.mk1 3) 0 (codeAt [1,1,1,1,1,1,1,1,1] (bd Tryd.f3))) (retK tt Tryd.f3.results.toList fun x s' => topK R x ⟨[],s'.hp,s'.T⟩)) (retK tt Tryd.f3.results.toList fun x s' => topK R x ⟨[],s'.hp,s'.T⟩)
noncomputable def Q3_0 (R : V → Prop) : Exit → St → Prop := (blockK 0 (K3_0 R))
noncomputable def K3_1 (R : V → Prop) : Exit → St → Prop := seqK ((awp X3.tt (callN Tryd.prog X3 0) (X3.md 3) 1 (X3.mk1 3) 0 (codeAt [1,1,1,1,1,1,1,1,1,1] (bd Tryd.f3))) (retK tt Tryd.f3.results.toList fun x s' => topK R x ⟨[],s'.hp,s'.T⟩)) (retK tt Tryd.f3.results.toList fun x s' => topK R x ⟨[],s'.hp,s'.T⟩)
noncomputable def Q3_2 (R : V → Prop) : Exit → St → Prop := (blockK 2 (K3_1 R))
noncomputable def K3_2 (R : V → Prop) (k2 : St → Prop) : Exit → St → Prop := seqK ((awp X3.tt (callN Tryd.prog X3 0) (X3.md 3) 1 (X3.mk1 3) 2 (codeAt [1,1,1,1,1,1,1,1,1,0,1,0,0,1,1] (bd Tryd.f3))) (loopQ M3_2 k2 (blockK 2 (K3_1 R)))) (loopQ M3_2 k2 (blockK 2 (K3_1 R)))
noncomputable def K3_3 (R : V → Prop) (k2 : St → Prop) : Exit → St → Prop := seqK ((awp X3.tt (callN Tryd.prog X3 0) (X3.md 3) 1 (X3.mk1 3) 3 (codeAt [1,1,1,1,1,1,1,1,1,0,1,0,0,1,0,0,1,1,1,1] (bd Tryd.f3))) (blockK 3 (K3_2 R k2))) (blockK 3 (K3_2 R k2))
noncomputable def Q3_4 (R : V → Prop) (k2 : St → Prop) : Exit → St → Prop := (blockK 4 (K3_3 R k2))
theorem E3 (words0 : Int) (texts1 : (List (List UInt8))) {R : V → Prop} (h : (∃ p1 : Bool,PC Tryd.prog 7 [] (.bool p1) ∧ (((!p1) = true → R (.bool false)) ∧
 ((!p1) = false → (∃ p2 : Int,PC Tryd.prog 9 [(.int .i64 words0),(.int .i64 (3000:Int))] (.int .i64 p2) ∧ (XC Tryd.prog 8 [(.ref yZ1),(.pure (.int .i64))] [(.v (.int .i64 ((IntKind.wrap .i64 ((100:Int) + p2)))))] XH.none (fun (p3 : (Option Nat) × Int) (X4 : XH) => (((!p1) = true → R (.bool false)) ∧ ((!p1) = false → (((Option.isNone p3.1) = true → R (.bool false)) ∧ ((Option.isNone p3.1) = false → (((p3.2 != (0:Int)) = true → R (.bool false)) ∧
 ((p3.2 != (0:Int)) = false → (XC Tryd.prog 10 [(.pure (.int .i64)),(.pure (.int .i64))] [(.ref p3.1 yZ1 0 []),(.v (.agg [(.int .i64 (4:Int)),(.list .bool ([] : List Bool) .no)]))] X4 (fun (p5 : Int × Int) (X6 : XH) => (Loops B3_0 M3_0 (Q3_0 R)
  (S3_0 texts1 p3.1 p5.1 ([] : List Int) .exact (([] : List (List UInt8))) .exact (0:Int) X6 ⟨0,[]⟩))))))))))))))))) :
  fnK X3.tt (callN Tryd.prog X3 0) (X3.md 3) (X3.mk1 3) Tryd.f3 [(.v (.int .i64 words0)),(.v (.list .str texts1 .no))] ⟨[],[some (.heap XH.none)],⟨0,[]⟩⟩ (topK R) := Eq.mp (by kernel_rfl) h
theorem L3_0 (texts1 : List (List UInt8)) (h6 : Option Nat) (id8 : Int) (at10 : List Int) (at10k : Tok) (want11 : List (List UInt8)) (want11k : Tok) (i12 : Int) (hq0 : XH) (T : Toks) {R : V → Prop} {k0 : St → Prop}
 (h : (((decide (i12 < ((texts1).length : Int))) = true → (((decide (i12 < (40:Int))) = true → (0 ≤ i12 ∧ i12 < ((texts1).length : Int) ∧ (((decide ((((texts1.getD (i12).toNat [])).length : Int) > (500:Int))) = true → k0 (S3_0 texts1 h6 id8 at10 at10k want11 want11k ((IntKind.wrap .i64 (i12 + (1:Int)))) hq0 T)) ∧
 ((decide ((((texts1.getD (i12).toNat [])).length : Int) > (500:Int))) = false → (0 ≤ i12 ∧ i12 < ((texts1).length : Int) ∧ (XC Tryd.prog 11 [(.pure (.int .i64)),(.pure (.int .i64))] [(.ref h6 yZ1 0 []),(.v (.int .i64 id8)),(.v (.str ((texts1.getD (i12).toNat []))))] hq0 (fun (p7 : Int × Int) (X8 : XH) => (((p7.2 == (0:Int)) = true → (Tok.own at10k T.l ∧ ((at10).length + (([p7.1] : List Int)).length) * 8 ≤ room ∧ (0 ≤ i12 ∧ i12 < ((texts1).length : Int) ∧ (Tok.own want11k (T.n :: Tok.drop at10k T.l) ∧ ((want11).length + (([(texts1.getD (i12).toNat [])] : List (List UInt8))).length) * 16 ≤ room ∧ k0 (S3_0 texts1 h6 id8 ((at10 ++ ([p7.1] : List Int))) (.tk T.n) ((want11 ++ ([(texts1.getD (i12).toNat [])] : List (List UInt8)))) ((.tk (T.n + 1))) ((IntKind.wrap .i64 (i12 + (1:Int)))) X8 ⟨((T.n + 1) + 1),((T.n + 1) :: Tok.drop want11k (T.n :: Tok.drop at10k T.l))⟩))))) ∧
 ((p7.2 == (0:Int)) = false → (((p7.2 != (23:Int)) = true → (((p7.2 != (4:Int)) = true → R (.bool false)) ∧
 ((p7.2 != (4:Int)) = false → k0 (S3_0 texts1 h6 id8 at10 at10k want11 want11k ((IntKind.wrap .i64 (i12 + (1:Int)))) X8 T)))) ∧ ((p7.2 != (23:Int)) = false → k0 (S3_0 texts1 h6 id8 at10 at10k want11 want11k ((IntKind.wrap .i64 (i12 + (1:Int)))) X8 T)))))))))))) ∧
 ((decide (i12 < (40:Int))) = false → (Loops B3_2 M3_2 (Q3_2 R)
  (S3_2 h6 at10 at10k want11 want11k (0:Int) hq0 T))))) ∧ ((decide (i12 < ((texts1).length : Int))) = false → (Loops B3_2 M3_2 (Q3_2 R)
  (S3_2 h6 at10 at10k want11 want11k (0:Int) hq0 T))))) :
  B3_0 (loopQ M3_0 k0 (Q3_0 R)) (S3_0 texts1 h6 id8 at10 at10k want11 want11k i12 hq0 T) := Eq.mp (by kernel_rfl) h
theorem L3_2 (h6 : Option Nat) (at10 : List Int) (at10k : Tok) (want11 : List (List UInt8)) (want11k : Tok) (i15 : Int) (hq0 : XH) (T : Toks) {R : V → Prop} {k2 : St → Prop}
 (h : (((decide (i15 < ((at10).length : Int))) = true → (0 ≤ i15 ∧ i15 < ((at10).length : Int) ∧ (∃ (p9 : (List UInt8) × Bool),RC Tryd.prog 12 [(.pure .str),(.pure .bool)] [(.ref h6 yZ1 0 []),(.v (.int .i64 ((at10.getD (i15).toNat 0))))] hq0 p9 ∧ (0 ≤ i15 ∧ i15 < ((at10).length : Int) ∧ (∃ (p10 : Int × Bool),RC Tryd.prog 13 [(.pure (.int .i64)),(.pure .bool)] [(.ref h6 yZ1 0 []),(.v (.int .i64 ((at10.getD (i15).toNat 0))))] hq0 p10 ∧ (Loops B3_4 M3_4 (Q3_4 R k2)
  (S3_4 h6 at10 at10k want11 want11k i15 p9.1 p9.2 p10.1 (0:Int) (0:Int) hq0 T))))))) ∧
 ((decide (i15 < ((at10).length : Int))) = false → R (.bool true)))) :
  B3_2 (loopQ M3_2 k2 (Q3_2 R)) (S3_2 h6 at10 at10k want11 want11k i15 hq0 T) := Eq.mp (by kernel_rfl) h
theorem L3_4 (h6 : Option Nat) (at10 : List Int) (at10k : Tok) (want11 : List (List UInt8)) (want11k : Tok) (i15 : Int) (s16 : List UInt8) (ok17 : Bool) (n18 : Int) (runes20 : Int) (k21 : Int) (hq0 : XH) (T : Toks) {R : V → Prop} {k2 : St → Prop} {k4 : St → Prop}
 (h : (0 ≤ i15 ∧ i15 < ((want11).length : Int) ∧ (((decide (k21 < (((want11.getD (i15).toNat [])).length : Int))) = true → (0 ≤ i15 ∧ i15 < ((want11).length : Int) ∧ (0 ≤ k21 ∧ k21 < (((want11.getD (i15).toNat [])).length : Int) ∧ (((decide (((((want11.getD (i15).toNat [])).getD (k21).toNat 0).toNat : Int) < (128:Int))) = true → k4 (S3_4 h6 at10 at10k want11 want11k i15 s16 ok17 n18 ((IntKind.wrap .i64 (runes20 + (1:Int)))) ((IntKind.wrap .i64 (k21 + (1:Int)))) hq0 T)) ∧ ((decide (((((want11.getD (i15).toNat [])).getD (k21).toNat 0).toNat : Int) < (128:Int))) = false → (0 ≤ i15 ∧ i15 < ((want11).length : Int) ∧ (0 ≤ k21 ∧ k21 < (((want11.getD (i15).toNat [])).length : Int) ∧ (((decide (((((want11.getD (i15).toNat [])).getD (k21).toNat 0).toNat : Int) ≥ (192:Int))) = true → k4 (S3_4 h6 at10 at10k want11 want11k i15 s16 ok17 n18 ((IntKind.wrap .i64 (runes20 + (1:Int)))) ((IntKind.wrap .i64 (k21 + (1:Int)))) hq0 T)) ∧
 ((decide (((((want11.getD (i15).toNat [])).getD (k21).toNat 0).toNat : Int) ≥ (192:Int))) = false → k4 (S3_4 h6 at10 at10k want11 want11k i15 s16 ok17 n18 runes20 ((IntKind.wrap .i64 (k21 + (1:Int)))) hq0 T)))))))))) ∧
 ((decide (k21 < (((want11.getD (i15).toNat [])).length : Int))) = false → (((!ok17) = true → R (.bool false)) ∧ ((!ok17) = false → (0 ≤ i15 ∧ i15 < ((want11).length : Int) ∧ (((!(s16 == ((want11.getD (i15).toNat [])))) = true → R (.bool false)) ∧ ((!(s16 == ((want11.getD (i15).toNat [])))) = false → (((n18 != runes20) = true → R (.bool false)) ∧ ((n18 != runes20) = false → (0 ≤ i15 ∧ i15 < ((at10).length : Int) ∧ (∃ (p11 : (List Int)),RC Tryd.prog 14 [(.pure (.slice (.int .i64)))] [(.ref h6 yZ1 0 []),(.v (.int .i64 ((at10.getD (i15).toNat 0))))] hq0 p11 ∧ (((((p11).length : Int) != (0:Int)) = true → R (.bool false)) ∧
 ((((p11).length : Int) != (0:Int)) = false → k2 (S3_2 h6 at10 at10k want11 want11k ((IntKind.wrap .i64 (i15 + (1:Int)))) hq0 T)))))))))))))))) :
  B3_4 (loopQ M3_4 k4 (Q3_4 R k2)) (S3_4 h6 at10 at10k want11 want11k i15 s16 ok17 n18 runes20 k21 hq0 T) := Eq.mp (by kernel_rfl) h
end Go.Proofs.YtdcljlafookliaaDoor.AB

namespace Go.Proofs.YtdcljlafookliaaDoor.AB
open Go

variable {X X' : XH} {h : Nat} {o : OD} {bs : List Bl}

def All3 (o : OD) (bs : List Bl) (l : List Int) (m : List (List UInt8)) : Prop := l.length = m.length ∧ ∀ i,i < l.length → TextAt o bs (l.getD i 0) (m.getD i [])

def St3 (X : XH) (h : Nat) (l : List Int) (m : List (List UInt8)) : Prop := ∃ o bs,RepH X h o ∧ DOK o.d bs ∧ o.ts = [(1,.row 4)] ∧ All3 o bs l m

theorem TextAt.keep {o' : OD} {bs' : List Bl} {a : Int} {t : List UInt8} (q : TextAt o bs a t) (ht : o'.ts = o.ts) (e : ob o'.d.W bs' a = ob o.d.W bs a) : TextAt o' bs' a t := by
 obtain ⟨⟨b,e1,e2,e3⟩,hv⟩ := q
 exact ⟨⟨b,e.trans e1,by rw [ht]; exact e2,e3⟩,hv⟩

theorem told3 {sizes : Nat} {k1 k2 : Tok} {T : Toks} {l : List Int} {m : List (List UInt8)} (hs : St3 X h l m) (hl : l.length ≤ 40) (hm : ∀ i,i < m.length → (m.getD i []).length ≤ 500) :
  Loops B3_2 M3_2 (Q3_2 (fun v => v.norm = .bool true ∧ (V.bool true).nt = true)) (S3_2 (some h) l k1 m k2 (0:Int) X T) := by
 obtain ⟨o,bs,r,d,ht,ha⟩ := hs
 refine Loops.intro (fun i : Nat => S3_2 (some h) l k1 m k2 (i : Nat) X T) (fun i => i ≤ l.length) (fun i => l.length - i) 0 rfl (Nat.zero_le _) fun i hi => ?_
 refine L3_2 (some h) l k1 m k2 (i : Nat) X T ⟨fun e => ?_,fun e => ⟨rfl,rfl⟩⟩
 have e := of_decide_eq_true e
 have hlt : i < l.length := by omega
 rw [Int.toNat_natCast]
 have q := ha.2 i hlt
 obtain ⟨q1,q2,q3⟩ := q.tells d
 have hml := hm i (by rw [← ha.1]; exact hlt)
 have hlen := ha.1
 have hle : leadC (m.getD i []) ≤ (m.getD i []).length := List.length_filter_le _ _
 refine ⟨by omega,by omega,_,c12 r d _ (by rw [q2]; simp) (by rw [q2]; show ((leadC _ : Nat) : Int) ≤ _; omega),by omega,by omega,_,c13 r d _,?_⟩
 rw [q1,q2]
 generalize ht' : m.getD i [] = t at *
 refine Loops.intro (fun j : Nat => S3_4 (some h) l k1 m k2 (i : Nat) t true ((leadC t : Nat) : Int) ((leadC (t.take j) : Nat) : Int) (j : Nat) X T) (fun j => j ≤ t.length) (fun j => t.length - j) 0 rfl (Nat.zero_le _) fun j hj => ?_
 refine L3_4 (some h) l k1 m k2 (i : Nat) t true ((leadC t : Nat) : Int) ((leadC (t.take j) : Nat) : Int) (j : Nat) X T ?_
 rw [Int.toNat_natCast,Int.toNat_natCast,ht']
 refine ⟨by omega,by omega,fun e => ?_,fun e => ?_⟩
 ·have e := of_decide_eq_true e
  have hjl : j < t.length := by omega
  have hw : IntKind.wrap .i64 (((j : Nat) : Int) + 1) = ((j + 1 : Nat) : Int) := by rw [wrap64 (by omega) (by omega)]; omega
  have hle2 : leadC (t.take j) ≤ t.length := by
   have h1 : leadC (t.take j) ≤ (t.take j).length := List.length_filter_le _ _
   rw [List.length_take] at h1; omega
  have hw2 : IntKind.wrap .i64 (((leadC (t.take j) : Nat) : Int) + 1) = ((leadC (t.take j) + 1 : Nat) : Int) := by rw [wrap64 (by omega) (by omega)]; omega
  have lt := lead_take hjl
  rw [hw,hw2]
  have again : ∀ c : Nat,leadC (t.take (j + 1)) = c → Again (fun j : Nat => S3_4 (some h) l k1 m k2 (i : Nat) t true ((leadC t : Nat) : Int) ((leadC (t.take j) : Nat) : Int) (j : Nat) X T) (fun j => j ≤ t.length) (fun j => t.length - j) (t.length - j)
    (S3_4 (some h) l k1 m k2 (i : Nat) t true ((leadC t : Nat) : Int) (c : Nat) ((j + 1 : Nat) : Int) X T) := by
   rintro c rfl
   exact Again.mk (j + 1) rfl (show j + 1 ≤ t.length by omega) (show t.length - (j + 1) < t.length - j by omega)
  refine ⟨by omega,by omega,by omega,by omega,fun e1 => again _ ?_,fun e1 => ⟨by omega,by omega,by omega,by omega,fun e2 => again _ ?_,fun e2 => again _ ?_⟩⟩
  ·have e1 := of_decide_eq_true e1
   rw [lt,if_pos (by unfold isLead; rw [decide_eq_true (by omega)]; rfl)]
  ·have e2 := of_decide_eq_true e2
   rw [lt,if_pos (by unfold isLead; rw [decide_eq_true (p := 192 ≤ _) (by omega),Bool.or_true])]
  ·have e1 := of_decide_eq_false e1
   have e2 := of_decide_eq_false e2
   rw [lt,if_neg (by unfold isLead; rw [decide_eq_false (by omega),decide_eq_false (by omega)]; simp)]; rfl
 ·have e := of_decide_eq_false e
  have hj : j ≤ t.length := hj
  have hje : j = t.length := by omega
  subst hje
  rw [List.take_length]
  have hw : IntKind.wrap .i64 (((i : Nat) : Int) + 1) = ((i + 1 : Nat) : Int) := by rw [wrap64 (by omega) (by omega)]; omega
  rw [hw]
  refine ⟨fun e => (by cases e),fun _ => ⟨by omega,by omega,fun e => ?_,fun _ => ⟨fun e => ?_,fun _ => ⟨by omega,by omega,_,c14 r d _ (by rw [q2]; simp) (by rw [q2]; show ((leadC _ : Nat) : Int) ≤ _; omega),?_⟩⟩⟩⟩
  ·simp at e
  ·simp at e
  ·rw [q3]
   exact ⟨fun e => (by cases e),fun _ => Again.mk (i + 1) rfl (show i + 1 ≤ l.length by omega) (show l.length - (i + 1) < l.length - i by omega)⟩

structure I3 where
 i : Nat
 l : List Int
 k1 : Tok
 m : List (List UInt8)
 k2 : Tok
 T : Toks
 X : XH

def st3 (texts : List (List UInt8)) (h : Nat) (q : I3) : St := S3_0 texts (some h) 1 q.l q.k1 q.m q.k2 (q.i : Nat) q.X q.T

structure J3 (texts : List (List UInt8)) (h : Nat) (q : I3) : Prop where
 i : q.i ≤ texts.length
 i40 : q.i ≤ 40
 ll : q.l.length ≤ q.i
 k1 : q.k1.fresh q.T
 k2 : q.k2.fresh q.T
 ne : q.k1.ne q.k2
 m : ∀ j,j < q.m.length → (q.m.getD j []).length ≤ 500
 s : St3 q.X h q.l q.m

theorem getD_snoc {α : Type} {l : List α} {x d : α} {j : Nat} (hj : j < l.length + 1) : (l ++ [x]).getD j d = if j < l.length then l.getD j d else x := by
 split
 ·rename_i c; simp [List.getD,List.getElem?_append_left c]
 ·have : j = l.length := by omega
  subst this
  simp [List.getD]

theorem ne_symm {a b : Tok} (h : a.ne b) : b.ne a := by
 cases a <;> cases b <;> first | trivial | exact fun e => h e.symm

theorem J3.push {texts : List (List UInt8)} {q : I3} (j : J3 texts h q) (hi : q.i < texts.length) (h40 : q.i < 40) {a : Int} {t : List UInt8} (ht : t.length ≤ 500) {X' : XH} (hs : St3 X' h (q.l ++ [a]) (q.m ++ [t])) :
  J3 texts h ⟨q.i + 1,q.l ++ [a],.tk q.T.n,q.m ++ [t],.tk (q.T.n + 1),⟨q.T.n + 1 + 1,(q.T.n + 1) :: Tok.drop q.k2 (q.T.n :: Tok.drop q.k1 q.T.l)⟩,X'⟩ := by
 refine ⟨by show q.i + 1 ≤ _; omega,by show q.i + 1 ≤ 40; omega,?_,?_,Tok.fresh_new _ _,Nat.ne_of_lt (Nat.lt_succ_self _),fun n hn => ?_,hs⟩
 ·have := j.ll
  show (q.l ++ [a]).length ≤ q.i + 1
  rw [List.length_append]; show q.l.length + 1 ≤ q.i + 1; omega
 ·exact Tok.fresh.keep (t := .tk q.T.n) (u := q.k2) (T := ⟨q.T.n + 1,q.T.n :: Tok.drop q.k1 q.T.l⟩) (Tok.fresh_new _ _) (ne_symm j.k2.new_ne)
 ·have hn : n < (q.m ++ [t]).length := hn
  rw [List.length_append] at hn
  have hn : n < q.m.length + 1 := hn
  show ((q.m ++ [t]).getD n []).length ≤ 500
  rw [getD_snoc hn]
  split
  ·rename_i c; exact j.m n c
  ·exact ht

theorem J3.next {texts : List (List UInt8)} {q : I3} (j : J3 texts h q) (hi : q.i < texts.length) (h40 : q.i < 40) {X' : XH} (hs : St3 X' h q.l q.m) : J3 texts h ⟨q.i + 1,q.l,q.k1,q.m,q.k2,q.T,X'⟩ :=
 ⟨by show q.i + 1 ≤ _; omega,by show q.i + 1 ≤ 40; omega,by have := j.ll; show q.l.length ≤ q.i + 1; omega,j.k1,j.k2,j.ne,j.m,hs⟩

theorem All3.push {o' : OD} {bs' : List Bl} {l : List Int} {m : List (List UInt8)} (ha : All3 o bs l m) {a : Int} {t : List UInt8} (ht : o'.ts = o.ts) (hn : ob o.d.W bs a = none) (hk : ∀ a',a' ≠ a → ob o'.d.W bs' a' = ob o.d.W bs a') (hq : TextAt o' bs' a t) : All3 o' bs' (l ++ [a]) (m ++ [t]) := by
 refine ⟨by simp [ha.1],fun j hj => ?_⟩
 rw [List.length_append] at hj
 have hj : j < l.length + 1 := hj
 rw [getD_snoc hj,getD_snoc (by rw [← ha.1]; exact hj),← ha.1]
 split
 ·rename_i c
  refine (ha.2 j c).keep ht (hk _ fun e => ?_)
  obtain ⟨⟨b,eb,_⟩,_⟩ := ha.2 j c
  rw [e,hn] at eb; cases eb
 ·exact hq

theorem step3 {texts : List (List UInt8)} {q : I3} (j : J3 texts h q) :
  B3_0 (loopQ M3_0 (Again (st3 texts h) (J3 texts h) (fun q => texts.length - q.i) (texts.length - q.i)) (Q3_0 (fun v => v.norm = .bool true ∧ (V.bool true).nt = true))) (st3 texts h q) := by
 obtain ⟨i,l,k1,m,k2,T,X⟩ := q
 have hi : i ≤ texts.length := j.i
 have hi40 : i ≤ 40 := j.i40
 have hll : l.length ≤ i := j.ll
 have tell : Loops B3_2 M3_2 (Q3_2 (fun v => v.norm = .bool true ∧ (V.bool true).nt = true)) (S3_2 (some h) l k1 m k2 (0:Int) X T) := told3 (sizes := 0) j.s (by omega) j.m
 obtain ⟨o,bs,r,d,ht,ha⟩ := j.s
 refine L3_0 texts (some h) 1 l k1 m k2 (i : Nat) X T ⟨fun e => ⟨fun e40 => ?_,fun _ => tell⟩,fun _ => tell⟩
 have e := of_decide_eq_true e
 have e40 := of_decide_eq_true e40
 have hlt : i < texts.length := by omega
 have hl40 : i < 40 := by omega
 rw [Int.toNat_natCast]
 have hw : IntKind.wrap .i64 (((i : Nat) : Int) + 1) = ((i + 1 : Nat) : Int) := by rw [wrap64 (by omega) (by omega)]; omega
 rw [hw]
 generalize texts.getD i [] = t
 have same : ∀ X',St3 X' h l m → Again (st3 texts h) (J3 texts h) (fun q => texts.length - q.i) (texts.length - i) (S3_0 texts (some h) 1 l k1 m k2 ((i + 1 : Nat) : Int) X' T) := fun X' hX =>
  Again.mk ⟨i + 1,l,k1,m,k2,T,X'⟩ rfl (j.next hlt hl40 hX) (show texts.length - (i + 1) < texts.length - i by omega)
 refine ⟨by omega,by omega,fun _ => same X ⟨o,bs,r,d,ht,ha⟩,fun e5 => ⟨by omega,by omega,?_⟩⟩
 have e5 := of_decide_eq_false e5
 have hf : tfind o.ts 1 = some (.row 4) := by rw [ht]; rfl
 refine (c11 r d 1 t (by omega) (fun q hq _ => by cases hf.symm.trans hq; rfl)).mono fun (p : Int × Int) X8 q => ?_
 rcases q.cases d hf with ⟨g1,r',_⟩ | ⟨o',bs',r',_,d',t',_,g1,g2,g3,g4⟩
 ·have hX : St3 X8 h l m := ⟨o,bs,r',d,ht,ha⟩
  refine ⟨fun e => ?_,fun _ => ⟨fun e1 => ⟨fun e2 => ?_,fun _ => same X8 hX⟩,fun _ => same X8 hX⟩⟩
  ·have e : p.2 = 0 := by simpa using e
   rcases g1 with g1 | g1 <;> (rw [e] at g1; cases g1)
  ·have e1 : p.2 ≠ 23 := by simpa using e1
   have e2 : p.2 ≠ 4 := by simpa using e2
   rcases g1 with g1 | g1
   ·exact absurd g1 e2
   ·exact absurd g1 e1
 ·have hX : St3 X8 h (l ++ [p.1]) (m ++ [t]) := ⟨o',bs',r',d',t'.trans ht,ha.push t' g2 g4 g3⟩
  have h1 : k1.fresh T := j.k1
  have h2 : k2.fresh T := j.k2
  have h3 : k1.ne k2 := j.ne
  have hm : l.length = m.length := ha.1
  refine ⟨fun _ => ⟨h1.own,?_,by omega,by omega,(h2.keep h3).own,?_,?_⟩,fun e => by rw [g1] at e; cases e⟩
  ·show (l.length + 1) * 8 ≤ 140737488355328
   omega
  ·show (m.length + 1) * 16 ≤ 140737488355328
   omega
  ·exact Again.mk ⟨i + 1,l ++ [p.1],.tk T.n,m ++ [t],.tk (T.n + 1),⟨T.n + 1 + 1,(T.n + 1) :: Tok.drop k2 (T.n :: Tok.drop k1 T.l)⟩,X8⟩ rfl (j.push hlt hl40 (by omega) hX) (show texts.length - (i + 1) < texts.length - i by omega)

end Go.Proofs.YtdcljlafookliaaDoor.AB

namespace Go.Proofs.YtdcljlafookliaaDoor.AB
open Go

theorem law_ObjectTexts (words : Int) (texts : List (List UInt8)) (f0 : Cd.wf (.int .i64) words) (f1 : Cd.wf (.slice .str) texts) : PC Tryd.prog 3 [.int .i64 words,.list .str texts .no] (.bool true) := by
 have f0 : -9223372036854775808 ≤ words ∧ words ≤ 9223372036854775807 := f0
 have hpk := (pickR_lt words (n := 3000) (by decide)).1
 refine lawOf (X := X3) rfl FN3 (by kernel_rfl) (by decide) (E3 words texts ⟨_,p7,fun e => (by cases e),fun _ => ⟨_,pick_ok words f0 (n := 3000) (by decide),?_⟩⟩)
 rw [wrap64 (by omega) (by omega)]
 refine (c8 _ _ (by omega)).mono fun p1 X2 q1 => ?_
 obtain ⟨h,o0,rfl,r0,_,d0,w0,t0,l0⟩ := q1.ok (m := 100 + pickR words 3000) (by omega) (by omega)
 refine ⟨fun e => (by cases e),fun _ => ⟨fun e => (by cases e),fun _ => ⟨fun e => (by cases e),fun _ => ?_⟩⟩⟩
 refine (c10 r0 (4,[]) (by decide) (by omega)).mono fun p5 X6 q5 => ?_
 obtain ⟨o1,r1,_,rfl,e1⟩ := q5.ok (s := .row 4) (by unfold regE; rw [if_neg (by decide),if_neg (by rw [l0]; decide)]) (by kernel_rfl)
 have hS : St3 X6 h [] [] := ⟨o1,_,r1,by rw [e1]; exact d0,by rw [e1]; show mset (eqI (o0.last + 1)) (o0.last + 1) (.row 4) o0.ts = _; rw [l0,t0]; rfl,rfl,fun i hi => by simp at hi⟩
 rw [l0]
 refine Loops.intro (st3 texts h) (J3 texts h) (fun q => texts.length - q.i) ⟨0,[],.exact,[],.exact,⟨0,[]⟩,X6⟩ (show S3_0 texts (some h) (0 + 1) [] .exact [] .exact (0:Int) X6 ⟨0,[]⟩ = S3_0 texts (some h) 1 [] .exact [] .exact ((0:Nat) : Int) X6 ⟨0,[]⟩ from rfl) ⟨Nat.zero_le _,Nat.zero_le _,Nat.zero_le _,trivial,trivial,trivial,fun i hi => (by simp at hi),hS⟩ fun q hq => step3 hq

end Go.Proofs.YtdcljlafookliaaDoor.AB

