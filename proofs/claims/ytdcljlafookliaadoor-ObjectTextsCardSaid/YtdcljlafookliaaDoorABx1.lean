/- Parts of the proof: an evaluator of code on plain values, and that it is right of the model. -/
import Derived.Laws.AppendOwn
import Derived.Laws.AppendOwnNone
import Derived.Laws.MakeOwn
import Derived.Laws.OwnMore
import Derived.WalkKit
import Derived.Orders
import Derived.Lib.DecodeN
import Derived.Laws.BytesString
import Derived.Laws.IdiomStrings
set_option linter.unusedVariables false
set_option linter.unusedSimpArgs false
namespace Go.Proofs.YtdcljlafookliaaDoor.AB
open Go

inductive Cd where
 | unit | int (k : IntKind) | bool | str | slice (c : Cd) | pair (a b : Cd)
 deriving DecidableEq

@[reducible] def Cd.T : Cd → Type
 | .unit => Unit
 | .int _ => Int
 | .bool => Bool
 | .str => List UInt8
 | .slice c => List c.T
 | .pair a b => a.T × b.T

def Cd.dflt : (c : Cd) → c.T
 | .unit => ()
 | .int _ => (0 : Int)
 | .bool => false
 | .str => ([] : List UInt8)
 | .slice _ => []
 | .pair a b => (a.dflt, b.dflt)

def Cd.sz : Cd → Nat
 | .unit => 0
 | .pair a b => a.sz + b.sz
 | _ => 1

def Cd.isAgg : Cd → Bool
 | .unit => true
 | .pair _ _ => true
 | _ => false

abbrev CV : Type := (c : Cd) × c.T

inductive Tok where
 | no | exact | tk (n : Nat)

inductive V where
 | undef | tt | ff
 | int (k : IntKind) (n : Int)
 | bool (b : Bool)
 | str (s : List UInt8)
 | agg (l : List V)
 | tup (l : List V)
 | list (c : Cd) (l : List c.T) (t : Tok)
 | fptr (x : V) (f : Nat)
 | fmap (kc vc : Cd) (es : List (kc.T × vc.T))
 | fn (f : FuncId)
 | iface (t : TypeId) (x : V)
 | nils | nilp | nilm | nilf | nili

def V.cells : V → List V
 | .agg l => l
 | x => [x]

def V.one : V → Bool
 | .undef | .agg _ | .tup _ => false
 | _ => true

def V.norm0 : V → V
 | .list c l _ => .list c l .no
 | .tt => .bool true
 | .ff => .bool false
 | x => x

def V.norm1 : V → V
 | .agg l => .agg (l.map V.norm0)
 | x => x.norm0

def V.norm : V → V
 | .tup l => .tup (l.map V.norm1)
 | x => x.norm1

def Cd.cells : (c : Cd) → c.T → List V
 | .unit, _ => []
 | .int k, n => [.int k n]
 | .bool, b => [.bool b]
 | .str, s => [.str s]
 | .slice c, l => [.list c l .no]
 | .pair a b, p => a.cells p.1 ++ b.cells p.2

def Cd.enc (c : Cd) (x : c.T) : V :=
 match c, x with
 | .int k, n => .int k n
 | .bool, b => .bool b
 | .str, s => .str s
 | .slice c, l => .list c l .no
 | .unit, _ => .agg []
 | .pair a b, p => .agg (a.cells p.1 ++ b.cells p.2)

def Cd.encT (c : Cd) (x : c.T) (t : Tok) : V :=
 match c, x with
 | .int k, n => .int k n
 | .bool, b => .bool b
 | .str, s => .str s
 | .slice c, l => .list c l t
 | .unit, _ => .agg []
 | .pair a b, p => .agg (a.cells p.1 ++ b.cells p.2)

def Cd.get : (c : Cd) → List V → Option (c.T × List V)
 | .unit, l => some ((), l)
 | .int k, l => match l with
  | .int k' n :: r => if k = k' then some (n, r) else none
  | _ => none
 | .bool, l => match l with
  | .bool b :: r => some (b, r)
  | .tt :: r => some (true, r)
  | .ff :: r => some (false, r)
  | _ => none
 | .str, l => match l with
  | .str s :: r => some (s, r)
  | _ => none
 | .slice c, l => match l with
  | .list c' l _ :: r => if h : c' = c then some (h ▸ l, r) else none
  | .nils :: r => some ([], r)
  | _ => none
 | .pair a b, l => match a.get l with
  | some (x, l') => match b.get l' with
   | some (y, l'') => some ((x, y), l'')
   | none => none
  | none => none

def Cd.dec (c : Cd) (x : V) : Option c.T :=
 match x with
 | .undef => none
 | x => match c.get x.cells with
  | some (a, []) => some a
  | _ => none

def V.tok : V → Tok
 | .list _ _ t => t
 | _ => .no

inductive Xd where
 | pure (c : Cd)
 | ref (c : Xd)
 | sl (c : Xd)
 | mp (kc : Cd) (vc : Xd)
 | pair (a b : Xd)
 | vec (n : Nat) (a : Xd)
 | ifc
 deriving DecidableEq

structure SlH where
 h : Nat
 off : Nat
 len : Nat
 cap : Nat
 deriving DecidableEq

@[reducible] def Xd.T : Xd → Type
 | .pure c => c.T
 | .ref _ => Option Nat
 | .sl _ => Option SlH
 | .mp _ _ => Option Nat
 | .pair a b => a.T × b.T
 | .vec _ a => Nat → a.T
 | .ifc => Option (Nat × CV)

def Xd.dflt : (c : Xd) → c.T
 | .pure c => c.dflt
 | .ref _ => (none : Option Nat)
 | .sl _ => (none : Option SlH)
 | .mp _ _ => (none : Option Nat)
 | .pair a b => (a.dflt, b.dflt)
 | .vec _ a => fun _ => a.dflt
 | .ifc => (none : Option (Nat × CV))

def Xd.sz : Xd → Nat
 | .pure c => c.sz
 | .pair a b => a.sz + b.sz
 | .vec n a => n * a.sz
 | _ => 1

def Xd.isAgg : Xd → Bool
 | .pure c => c.isAgg
 | .pair _ _ => true
 | .vec _ _ => true
 | _ => false

inductive Stp1 where
 | fst | snd
 | idx (i : Nat)

inductive TV where
 | v (x : V)
 | ref (x : Option Nat) (c : Xd) (e : Nat) (p : List Stp1)
 | sl (c : Xd) (x : Option SlH)
 | mp (kc : Cd) (vc : Xd) (x : Option Nat)
 | ptr (i g e f : Nat)
 | arr (i g off len : Nat)
 | mapr (i : Nat)
 | clo (f : FuncId) (caps : List TV)
 | iter (i : Nat)
 | bsl (i n : Nat)
 | ifc (e : Option (Nat × CV))
 | agg (l : List TV)
 | tup (l : List TV)

def TV.cells : TV → List TV
 | .v x => x.cells.map .v
 | .agg l => l
 | x => [x]

def TV.one : TV → Bool
 | .v x => x.one
 | .agg _ | .tup _ => false
 | _ => true

def TV.allV : List TV → Option (List V)
 | [] => some []
 | .v x :: r => match TV.allV r with
  | some l => some (x :: l)
  | none => none
 | _ => none

def TV.mkAgg (l : List TV) : TV :=
 match TV.allV l with
 | some vs => .v (.agg vs)
 | none => .agg l

def TV.mkTup (l : List TV) : TV :=
 match TV.allV l with
 | some vs => .v (.tup vs)
 | none => .tup l

def TV.toV0 : TV → V
 | .v x => x.norm0
 | _ => .undef

def Xd.cells : (c : Xd) → c.T → List TV
 | .pure c, x => (c.cells x).map .v
 | .ref c, x => [.ref x c 0 []]
 | .sl c, x => [.sl c x]
 | .mp kc vc, x => [.mp kc vc x]
 | .pair a b, p => a.cells p.1 ++ b.cells p.2
 | .vec n a, f => (List.range n).flatMap fun i => a.cells (f i)
 | .ifc, x => [.ifc x]

def Xd.enc (c : Xd) (x : c.T) : TV :=
 match c, x with
 | .pure c, x => .v (c.enc x)
 | .ref c, x => .ref x c 0 []
 | .sl c, x => .sl c x
 | .mp kc vc, x => .mp kc vc x
 | .pair a b, p => TV.mkAgg (a.cells p.1 ++ b.cells p.2)
 | .vec n a, f => TV.mkAgg ((List.range n).flatMap fun i => a.cells (f i))
 | .ifc, x => .ifc x

inductive XO where
 | arr (c : Xd) (l : List c.T)
 | map (kc : Cd) (vc : Xd) (es : List (kc.T × vc.T))

structure XH where
 n : Nat
 f : Nat → Option XO

inductive O where
 | heap (X : XH)
 | box (x : TV)
 | arr (g : Nat) (c : Cd) (l : List c.T) (ts : Nat → Tok)
 | map (kc vc : Cd) (es : List (kc.T × vc.T × Tok))
 | siter (s : List UInt8) (pos : Nat)

abbrev Hp := List (Option O)

structure Toks where
 n : Nat
 l : List Nat

structure St where
 tm : List TV
 hp : Hp
 T : Toks

inductive TK where
 | bool | int (k : IntKind) | str | ptr (e : Nat) | slice (e : Nat) | arr (n e : Nat) | map (k e : Nat) | strct (fs : List (Nat × Nat)) | iface | func | other

structure TI where
 k : TK
 size : Nat
 bytes : Nat
 zero : V
 code : Cd
 ok : Bool
 cok : Bool

abbrev TT := List TI

def TT.at (tt : TT) (t : Nat) : TI := tt.getD t ⟨.other, 0, 0, .undef, .unit, false, false⟩

def sliceElem (tt : TT) (t : Nat) : Option Nat :=
 match (tt.at t).ok, (tt.at t).k with
 | true, .slice e => match (tt.at e).ok, (tt.at e).cok with
  | true, true => some e
  | _, _ => none
 | _, _ => none

def TK.isAgg : TK → Bool
 | .arr _ _ | .strct _ => true
 | _ => false

def ofConst (tt : TT) (ty : Nat) : Value → V
 | .int k n => .int k n
 | .bool true => .tt
 | .bool false => .ff
 | .string s => .str s.data.toList
 | .slice none 0 0 => match sliceElem tt ty with
  | some e => .list (tt.at e).code [] .exact
  | none => .nils
 | .pointer none => .nilp
 | .map none => .nilm
 | .nilFunc => .nilf
 | .nilIface => .nili
 | _ => .undef

def St.ev (tt : TT) (ty : Nat) (s : St) : Operand → TV
 | .tmp t => s.tm.getD t (.v .undef)
 | .const c => .v (ofConst tt ty c)
 | .func f => .v (.fn f)
 | .global _ => .v .undef

def St.put (s : St) (d : Option Nat) (x : TV) : St :=
 match d with
 | some d => { s with tm := s.tm.set d x }
 | none => s

inductive Md where
 | dflt | inl | lend | mut
 | x (c : Xd)
 | rd | xc
 | meth (m : String) (c : Cd)

abbrev Mds := List (Nat × Nat × Md)

def Mds.at : Mds → Nat → Nat → Md
 | [], _, _ => .dflt
 | (r, i, m) :: l, r', i' => match Nat.beq i i' with
  | true => match Nat.beq r r' with
   | true => m
   | false => Mds.at l r' i'
  | false => Mds.at l r' i'

end Go.Proofs.YtdcljlafookliaaDoor.AB

namespace Go.Proofs.YtdcljlafookliaaDoor.AB
open Go

abbrev CallP := Md → FuncId → List TV → St → (TV → St → Prop) → Prop

def boolOf : TV → Option Bool
 | .v .tt => some true
 | .v .ff => some false
 | .v (.bool b) => some b
 | _ => none

def pickK (c a b : TV) (s : St) (K : TV → St → Prop) : Prop :=
 match c with
 | .v .tt => K a s
 | .v .ff => K b s
 | .v (.bool t) => match boolOf a, boolOf b with
  | some x, some y => K (.v (.bool (cond t x y))) s
  | _, _ => (t = true → K a s) ∧ (t = false → K b s)
 | _ => False

def subV (agg : Bool) (n f : Nat) (x : V) : Option V :=
 match Nat.ble (f + n) x.cells.length with
 | true => match agg with
  | true => some (.agg ((x.cells.drop f).take n))
  | false => match n with
   | 1 => some (x.cells.getD f .undef)
   | _ => none
 | false => none

def subTV (agg : Bool) (n f : Nat) (x : TV) : Option TV :=
 match Nat.ble (f + n) x.cells.length with
 | true => match agg with
  | true => some (TV.mkAgg ((x.cells.drop f).take n))
  | false => match n with
   | 1 => some (x.cells.getD f (.v .undef))
   | _ => none
 | false => none

def loadK (tt : TT) (t : Nat) (p : TV) (s : St) (K : TV → St → Prop) : Prop :=
 match p with
 | .v (.fptr x f) => match subV (tt.at t).k.isAgg (tt.at t).size f x with
  | some y => K (.v y) s
  | none => False
 | .ptr i g e f => match s.hp.getD i none with
  | some (.box x) => match g, e with
   | 0, 0 => match subTV (tt.at t).k.isAgg (tt.at t).size f x with
    | some y => K y s
    | none => False
   | _, _ => False
  | some (.arr g' c l ts) => g = g' ∧ e < l.length ∧
   match subV (tt.at t).k.isAgg (tt.at t).size f (c.encT (l.getD e c.dflt) (ts e)) with
   | some y => K (.v y) s
   | none => False
  | _ => False
 | _ => False

def St.setO (s : St) (i : Nat) (o : O) : St := { s with hp := s.hp.set i (some o) }
def St.addO (s : St) (o : O) : St := { s with hp := s.hp ++ [some o] }

def putC (y x : List TV) (f : Nat) : List TV := y.take f ++ x ++ y.drop (f + x.length)

def storeBox (y x : TV) (n f : Nat) : Option TV :=
 match Nat.beq x.cells.length n, Nat.ble (f + n) y.cells.length, x.cells.all TV.one with
 | true, true, true => match y with
  | .v (.agg _) | .agg _ => some (TV.mkAgg (putC y.cells x.cells f))
  | _ => match n with
   | 1 => some x
   | _ => none
 | _, _, _ => none

def TV.toV (x : TV) : V :=
 match x with
 | .v x => x.norm1
 | .agg l => .agg (l.map TV.toV0)
 | _ => .undef

def TV.tok : TV → Tok
 | .v x => x.tok
 | _ => .no

def storeK (tt : TT) (t : Nat) (p x : TV) (s : St) (K : TV → St → Prop) : Prop :=
 match p with
 | .ptr i g e f => match s.hp.getD i none with
  | some (.box y) => match g, e with
   | 0, 0 => match storeBox y x (tt.at t).size f with
    | some z => K (.v .undef) (s.setO i (.box z))
    | none => False
   | _, _ => False
  | some (.arr g' c l ts) => g = g' ∧ e < l.length ∧
   match storeBox (.v (c.encT (l.getD e c.dflt) (ts e))) x (tt.at t).size f with
   | some z => match c.dec z.toV with
    | some a => K (.v .undef) (s.setO i (.arr g' c (l.set e a) (fun j => if j = e then z.tok else ts j)))
    | none => False
   | none => False
  | _ => False
 | _ => False

def fillC (place : Nat → Option (Nat × Nat)) : List TV → List (Nat × TV) → Option (List TV)
 | cs, [] => some cs
 | cs, (i, x) :: r => match place i with
  | some (off, n) => match Nat.beq x.cells.length n, Nat.ble (off + n) cs.length, x.cells.all TV.one with
   | true, true, true => fillC place (putC cs x.cells off) r
   | _, _, _ => none
  | none => none

def TK.place (tt : TT) : TK → Nat → Option (Nat × Nat)
 | .strct fs, i => match fs[i]? with
  | some (off, ft) => some (off, (tt.at ft).size)
  | none => none
 | .arr _ e, i => some (i * (tt.at e).size, (tt.at e).size)
 | _, _ => none

def buildK (tt : TT) (t : Nat) (parts : List (Nat × TV)) (s : St) (K : TV → St → Prop) : Prop :=
 match (tt.at t).k.isAgg with
 | true => match fillC ((tt.at t).k.place tt) (TV.v (tt.at t).zero).cells parts with
  | some cs => K (TV.mkAgg cs) s
  | none => False
 | false => False

def litEls (c : Cd) : Nat → List (Nat × TV) → Option (List c.T)
 | _, [] => some []
 | i, (j, x) :: r => match Nat.beq i j, c.dec x.toV with
  | true, some a => match litEls c (i + 1) r with
   | some l => some (a :: l)
   | none => none
  | _, _ => none

def buildBoxK (tt : TT) (t len : Nat) (parts : List (Nat × TV)) (s : St) (K : TV → St → Prop) : Prop :=
 match (tt.at t).ok, (tt.at t).k with
 | true, .slice e => match (tt.at e).ok, Nat.beq (tt.at e).size 1, Nat.blt 0 len, Nat.ble len 16777216, fillC (fun i => some (i * 1, 1)) (List.replicate len (.v .undef)) parts with
  | true, true, true, true, some cs => K (.bsl s.hp.length len) (s.addO (.box (.agg cs)))
  | _, _, _, _, _ => False
 | _, _ => False

def buildArrK (tt : TT) (t len : Nat) (parts : List (Nat × TV)) (s : St) (K : TV → St → Prop) : Prop :=
 match sliceElem tt t with
 | some e => match Nat.beq parts.length len, Nat.ble (len * (tt.at e).size) 16777216, litEls (tt.at e).code 0 parts with
  | true, true, some l => K (.arr s.hp.length 0 0 len) (s.addO (.arr 0 (tt.at e).code l (fun _ => .no)))
  | _, _, _ => False
 | none => False

def buildSliceK (tt : TT) (t len : Nat) (parts : List (Nat × TV)) (s : St) (K : TV → St → Prop) : Prop :=
 match sliceElem tt t with
 | some e => match Nat.beq parts.length len, Nat.ble (len * (tt.at e).size) 16777216, litEls (tt.at e).code 0 parts with
  | true, true, some l => K (.v (.list (tt.at e).code l .exact)) s
  | _, _, _ => False
 | none => False

def room : Nat := 140737488355328

def Tok.own (t : Tok) (T : List Nat) : Prop :=
 match t with
 | .no => False
 | .exact => True
 | .tk n => n ∈ T

def Tok.drop (t : Tok) (T : List Nat) : List Nat :=
 match t with
 | .tk n => T.filter (· ≠ n)
 | _ => T

def bytesOf (s : List UInt8) : List Int := s.map fun b => (b.toNat : Int)

def srcOf (c : Cd) (x : TV) (_hp : Hp) : Option (List c.T) :=
 match x with
 | .v (.list c' l _) => if h : c' = c then some (h ▸ l) else none
 | .v (.str s) => if h : Cd.int .u8 = c then some (h ▸ bytesOf s) else none
 | _ => none

def isSrcK : TK → Bool
 | .slice _ | .str => true
 | _ => false

def appendZK (tt : TT) (e : Nat) (k2 : TK) (x y : TV) (s : St) (K : TV → St → Prop) : Prop :=
 match x, y, k2 with
 | .arr i g off len, .v (.int .i64 n), .int _ => match off, s.hp.getD i none with
  | 0, some (.arr g' c l ts) => match decide (c = (tt.at e).code), c.dec (TV.v (tt.at e).zero).toV with
   | true, some z => 0 ≤ n ∧ g = g' ∧ len ≤ l.length ∧ (len + n.toNat) * (tt.at e).bytes ≤ room ∧
    K (.arr i (g + 1) 0 (len + n.toNat)) (s.setO i (.arr (g + 1) c (l.take len ++ List.replicate n.toNat z) (fun _ => .no)))
   | _, _ => False
  | _, _ => False
 | _, _, _ => False

def appendK (tt : TT) (t t2 : Nat) (x y : TV) (s : St) (K : TV → St → Prop) : Prop :=
 match sliceElem tt t, isSrcK (tt.at t2).k with
 | some e, false => appendZK tt e (tt.at t2).k x y s K
 | some e, true => match x with
  | .v (.list c l tk) => match decide (c = (tt.at e).code), srcOf c y s.hp with
   | true, some l' => tk.own s.T.l ∧ (l.length + l'.length) * (tt.at e).bytes ≤ room ∧
    K (.v (.list c (l ++ l') (.tk s.T.n))) { s with T := ⟨s.T.n + 1, s.T.n :: tk.drop s.T.l⟩ }
   | _, _ => False
  | .arr i g off len => match off, s.hp.getD i none with
   | 0, some (.arr g' c l ts) => match decide (c = (tt.at e).code), srcOf c y s.hp with
    | true, some l' => g = g' ∧ len ≤ l.length ∧ (len + l'.length) * (tt.at e).bytes ≤ room ∧
     K (.arr i (g + 1) 0 (len + l'.length)) (s.setO i (.arr (g + 1) c (l.take len ++ l') (fun _ => .no)))
    | _, _ => False
   | _, _ => False
  | _ => False
 | _, _ => False

def lenK (k : TK) (x : TV) (s : St) (K : TV → St → Prop) : Prop :=
 match k, x with
 | .slice _, .v (.list _ l _) => K (.v (.int .i64 l.length)) s
 | .str, .v (.str l) => K (.v (.int .i64 l.length)) s
 | .map _ _, .v (.fmap _ _ es) => K (.v (.int .i64 es.length)) s
 | .map _ _, .v .nilm => K (.v (.int .i64 0)) s
 | .slice _, .arr _ _ _ n => K (.v (.int .i64 n)) s
 | .slice _, .bsl _ n => K (.v (.int .i64 n)) s
 | .map _ _, .mapr i => match s.hp.getD i none with
  | some (.map _ _ es) => K (.v (.int .i64 es.length)) s
  | _ => False
 | .arr n _, _ => K (.v (.int .i64 n)) s
 | _, _ => False

def bytesLess : List UInt8 → List UInt8 → Bool := Op.bytesLess

def intBin (op : BinOp) (k : IntKind) (a b : Int) (K : V → Prop) : Prop :=
 match op with
 | .add => K (.int k (k.wrap (a + b)))
 | .sub => K (.int k (k.wrap (a - b)))
 | .mul => K (.int k (k.wrap (a * b)))
 | .quo => b ≠ 0 ∧ K (.int k (k.wrap (a.tdiv b)))
 | .rem => b ≠ 0 ∧ K (.int k (a.tmod b))
 | .and => K (.int k (k.wrap (BitVec.ofInt k.bits a &&& BitVec.ofInt k.bits b).toNat))
 | .or => K (.int k (k.wrap (BitVec.ofInt k.bits a ||| BitVec.ofInt k.bits b).toNat))
 | .xor => K (.int k (k.wrap (BitVec.ofInt k.bits a ^^^ BitVec.ofInt k.bits b).toNat))
 | .andNot => K (.int k (k.wrap (BitVec.ofInt k.bits a &&& ~~~BitVec.ofInt k.bits b).toNat))
 | .eql => K (.bool (a == b))
 | .neq => K (.bool (a != b))
 | .lss => K (.bool (decide (a < b)))
 | .leq => K (.bool (decide (a ≤ b)))
 | .gtr => K (.bool (decide (a > b)))
 | .geq => K (.bool (decide (a ≥ b)))
 | _ => False

def strBin (op : BinOp) (a b : List UInt8) (K : V → Prop) : Prop :=
 match op with
 | .add => ((a.length + b.length : Nat) : Int) ≤ IntKind.i64.max ∧ K (.str (a ++ b))
 | .eql => K (.bool (a == b))
 | .neq => K (.bool (!(a == b)))
 | .lss => K (.bool (bytesLess a b))
 | .leq => K (.bool (bytesLess a b || a == b))
 | .gtr => K (.bool (!(bytesLess a b || a == b)))
 | .geq => K (.bool (!(bytesLess a b)))
 | _ => False

def nilOf : TV → Option Bool
 | .v .nilp | .v .nilm | .v .nilf | .v .nili => some true
 | .v (.fptr _ _) | .v (.fmap _ _ _) | .v (.fn _) | .v (.iface _ _) => some false
 | .ptr _ _ _ _ | .mapr _ | .clo _ _ => some false
 | _ => none

def nilK : TK → TV → Option Bool
 | .ptr _, .v .nilp => some true
 | .ptr _, .v (.fptr _ _) => some false
 | .ptr _, .ptr _ _ _ _ => some false
 | .map _ _, .v .nilm => some true
 | .map _ _, .v (.fmap _ _ _) => some false
 | .map _ _, .mapr _ => some false
 | .func, .v .nilf => some true
 | .func, .v (.fn _) => some false
 | .func, .clo _ _ => some false
 | .iface, .v .nili => some true
 | .iface, .v (.iface _ _) => some false
 | _, _ => none

def isBoolK : TK → Bool
 | .bool => true
 | _ => false

def litK (K : TV → St → Prop) (x : TV) (s : St) : Prop :=
 match x with
 | .v (.bool true) => K (.v .tt) s
 | .v (.bool false) => K (.v .ff) s
 | _ => False

def binK (ok : Bool) (k : TK) (cst : Bool) (op : BinOp) (x y : TV) (s : St) (K : TV → St → Prop) : Prop :=
 match x, y with
 | .v (.int k a), .v (.int k' b) => match op with
  | .shl => 0 ≤ b ∧ K (.v (.int k (k.wrap (a * 2 ^ min b.toNat k.bits)))) s
  | .shr => 0 ≤ b ∧ K (.v (.int k (a.fdiv (2 ^ min b.toNat k.bits)))) s
  | op => match decide (k = k') with
   | true => intBin op k a b fun v => K (.v v) s
   | false => False
 | .v (.str a), .v (.str b) => strBin op a b fun v => K (.v v) s
 | x, y => match ok, cst, nilK k x, nilK k y with
  | true, true, some a, some b => match a || b, op with
   | true, .eql => K (.v (cond (a && b) .tt .ff)) s
   | true, .neq => K (.v (cond (a && b) .ff .tt)) s
   | _, _ => False
  | _, _, _, _ => match ok, isBoolK k, boolOf x, boolOf y with
   | true, true, some a, some b => match op with
    | .eql => K (.v (.bool (a == b))) s
    | .neq => K (.v (.bool (!(a == b)))) s
    | _ => False
   | _, _, _, _ => False

def nilEqK (tt : TT) (op : BinOp) (t : Nat) (x y : TV) (s : St) (K : TV → St → Prop) : Prop :=
 match (tt.at t).ok, (tt.at t).k, x, y with
 | true, .slice _, .v (.list c l _), .v .nils => match op with
  | .eql => ∀ b : Bool, (b = true → l = []) → K (.v (.bool b)) s
  | .neq => ∀ b : Bool, (b = true → l = []) → K (.v (.bool (!b))) s
  | _ => False
 | _, _, _, _ => False

def unK (op : UnOp) (x : TV) (s : St) (K : TV → St → Prop) : Prop :=
 match op, x with
 | .neg, .v (.int k n) => K (.v (.int k (k.wrap (0 - n)))) s
 | .xor, .v (.int k n) => K (.v (.int k (k.wrap (BitVec.ofInt k.bits (if k.signed then -1 else k.max) ^^^ BitVec.ofInt k.bits n).toNat))) s
 | .not, .v .tt => K (.v .ff) s
 | .not, .v .ff => K (.v .tt) s
 | .not, .v (.bool b) => K (.v (.bool (!b))) s
 | _, _ => False

def ofBytes (l : List Int) : List UInt8 := l.map fun n => UInt8.ofNat n.toNat

def convertK (tt : TT) (src dst : Nat) (x : TV) (s : St) (K : TV → St → Prop) : Prop :=
 match (tt.at dst).k, x with
 | .int k, .v (.int _ n) => K (.v (.int k (k.wrap n))) s
 | .str, .v (.str l) => K (.v (.str l)) s
 | .slice e, .v (.str l) => match (tt.at src).k, (tt.at e).ok, (tt.at e).k with
  | .str, true, .int .u8 => K (.v (.list (.int .u8) (bytesOf l) .no)) s
  | _, _, _ => False
 | .str, .v (.list (.int .u8) l _) => match sliceElem tt src with
  | some e => match (tt.at e).k with
   | .int .u8 => K (.v (.str (ofBytes l))) s
   | _ => False
  | none => False
 | .str, .arr i g 0 len => match sliceElem tt src, s.hp.getD i none with
  | some e, some (.arr g' (.int .u8) l ts) => match (tt.at e).k with
   | .int .u8 => g = g' ∧ len ≤ l.length ∧ K (.v (.str (ofBytes (l.take len)))) s
   | _ => False
  | _, _ => False
 | _, _ => False

def intOfTV : Option TV → Option Int
 | some (.v (.int _ n)) => some n
 | _ => none

def boundsK (len : Nat) (lo hi : Option TV) (K : Nat → Nat → Prop) : Prop :=
 match lo, hi with
 | none, none => K 0 len
 | some (.v (.int _ l)), none => 0 ≤ l ∧ l ≤ len ∧ K l.toNat len
 | none, some (.v (.int _ h)) => 0 ≤ h ∧ h ≤ len ∧ K 0 h.toNat
 | some (.v (.int _ l)), some (.v (.int _ h)) => 0 ≤ l ∧ l ≤ h ∧ h ≤ len ∧ K l.toNat h.toNat
 | _, _ => False

def sliceK (tt : TT) (t : Nat) (x : TV) (lo hi mx : Option TV) (s : St) (K : TV → St → Prop) : Prop :=
 match (tt.at t).k, x with
 | .str, .v (.str l) => match mx with
  | none => boundsK l.length lo hi fun a b => K (.v (.str ((l.take b).drop a))) s
  | some _ => False
 | .slice _, .v (.list c l tk) => match sliceElem tt t with
  | some e => match decide (c = (tt.at e).code) with
   | true => match mx with
    | none => boundsK l.length lo hi fun a b => K (.v (.list c ((l.take b).drop a) .no)) s
    | some (.v (.int _ m)) => 0 ≤ m ∧ m ≤ l.length ∧ match hi with
     | some _ => boundsK m.toNat lo hi fun a b => b = m.toNat ∧ K (.v (.list c ((l.take b).drop a) .exact)) s
     | none => False
    | _ => False
   | false => False
  | none => False
 | .slice _, .arr i g off len => match mx, sliceElem tt t, s.hp.getD i none with
  | none, some e, some (.arr g' c l ts) => match decide (c = (tt.at e).code) with
   | true => g = g' ∧ boundsK len lo hi fun a b => K (.arr i g (off + a) (b - a)) s
   | false => False
  | _, _, _ => False
 | _, _ => False

def makeSliceK (tt : TT) (t : Nat) (l c : TV) (s : St) (K : TV → St → Prop) : Prop :=
 match sliceElem tt t, l, c with
 | some e, .v (.int k n), .v (.int k' m) => match (tt.at e).code.dec (TV.v (tt.at e).zero).toV with
  | some z => 0 ≤ n ∧ n ≤ m ∧ m * (tt.at e).bytes ≤ room ∧ m ≤ 9223372036854775807 ∧
   K (.arr s.hp.length 0 0 n.toNat) (s.addO (.arr 0 (tt.at e).code (List.replicate n.toNat z) (fun _ => (tt.at e).zero.tok)))
  | none => False
 | _, _, _ => False

def makeListK (tt : TT) (t : Nat) (l c : TV) (s : St) (K : TV → St → Prop) : Prop :=
 match sliceElem tt t, l, c with
 | some e, .v (.int k n), .v (.int k' m) => match (tt.at e).code.dec (TV.v (tt.at e).zero).toV with
  | some z => 0 ≤ n ∧ n ≤ m ∧ m * (tt.at e).bytes ≤ room ∧ m ≤ 9223372036854775807 ∧
   K (.v (.list (tt.at e).code (List.replicate n.toNat z) .no)) s
  | none => False
 | _, _, _ => False

def fieldAddrK (tt : TT) (t : Nat) (x : TV) (f : Nat) (s : St) (K : TV → St → Prop) : Prop :=
 match (tt.at t).k with
 | .strct fs => match fs[f]? with
  | some (off, ft) => match Nat.ble 1 (tt.at ft).size, x with
   | true, .v (.fptr y o) => K (.v (.fptr y (o + off))) s
   | true, .ptr i g e o => K (.ptr i g e (o + off)) s
   | _, _ => False
  | none => False
 | _ => False

def fieldK (tt : TT) (t : Nat) (x : TV) (f : Nat) (s : St) (K : TV → St → Prop) : Prop :=
 match (tt.at t).k with
 | .strct fs => match fs[f]? with
  | some (off, ft) => match x with
   | .v (.agg l) => match subV (tt.at ft).k.isAgg (tt.at ft).size off (.agg l) with
    | some y => K (.v y) s
    | none => False
   | .agg l => match subTV (tt.at ft).k.isAgg (tt.at ft).size off (.agg l) with
    | some y => K y s
    | none => False
   | _ => False
  | none => False
 | _ => False

def bslK (tt : TT) (t : Nat) (i n : Nat) (k : Int) (s : St) (K : TV → St → Prop) : Prop :=
 match (tt.at t).ok, (tt.at t).k with
 | true, .slice e => match (tt.at e).ok, Nat.beq (tt.at e).size 1, k with
  | true, true, .ofNat j => match Nat.blt j n with
   | true => K (.ptr i 0 0 j) s
   | false => False
  | _, _, _ => False
 | _, _ => False

def indexAddrK (tt : TT) (t : Nat) (x ix : TV) (s : St) (K : TV → St → Prop) : Prop :=
 match sliceElem tt t, x, ix with
 | _, .bsl i n, .v (.int _ k) => bslK tt t i n k s K
 | some e, .v (.list c l _), .v (.int _ i) => match decide (c = (tt.at e).code) with
  | true => 0 ≤ i ∧ i < l.length ∧ K (.v (.fptr (c.enc (l.getD i.toNat c.dflt)) 0)) s
  | false => False
 | some e, .arr j g off len, .v (.int _ i) => match s.hp.getD j none with
  | some (.arr g' c l _) => match decide (c = (tt.at e).code) with
   | true => g = g' ∧ 0 ≤ i ∧ i < len ∧ K (.ptr j g (off + i.toNat) 0) s
   | false => False
  | _ => False
 | _, _, _ => False

def getN (c : Cd) : Nat → List V → Option (List c.T)
 | 0, _ => some []
 | n + 1, l => match c.get l with
  | some (x, r) => match getN c n r with
   | some xs => some (x :: xs)
   | none => none
  | none => none

def indexK (tt : TT) (t : Nat) (x ix : TV) (s : St) (K : TV → St → Prop) : Prop :=
 match (tt.at t).k, x, ix with
 | .str, .v (.str l), .v (.int _ i) => 0 ≤ i ∧ i < l.length ∧ K (.v (.int .u8 ((l.getD i.toNat 0).toNat : Int))) s
 | .arr n e, .v (.agg l), .v (.int _ i) => match (tt.at e).cok, (tt.at e).code.isAgg == (tt.at e).k.isAgg, getN (tt.at e).code n l with
  | true, true, some xs => 0 ≤ i ∧ i < n ∧ K (.v ((tt.at e).code.enc (xs.getD i.toNat (tt.at e).code.dflt))) s
  | _, _, _ => False
 | _, _, _ => False

def Cd.keq : (c : Cd) → c.T → c.T → Bool
 | .int _, a, b => decide ((a : Int) = b)
 | .str, a, b => (a : List UInt8) == b
 | .bool, a, b => (a : Bool) == b
 | _, _, _ => false

def Cd.isKey : Cd → Bool
 | .int _ | .str | .bool => true
 | _ => false

def keyKind : TK → Cd → Bool
 | .int k, .int k' => decide (k = k')
 | .str, .str => true
 | .bool, .bool => true
 | _, _ => false

def mapCodes (tt : TT) (t : Nat) : Option (Cd × Cd) :=
 match (tt.at t).ok, (tt.at t).k with
 | true, .map k e => match (tt.at k).ok, (tt.at e).ok, (tt.at e).cok, keyKind (tt.at k).k (tt.at k).code with
  | true, true, true, true => some ((tt.at k).code, (tt.at e).code)
  | _, _, _, _ => none
 | _, _ => none

def mapElem (tt : TT) (t : Nat) : Nat :=
 match (tt.at t).k with
 | .map _ e => e
 | _ => 0

def mfind {α β : Type} (eq : α → Bool) : List (α × β) → Option β
 | [] => none
 | (a, b) :: r => match eq a with
  | true => some b
  | false => mfind eq r

def mset {α β : Type} (eq : α → Bool) (k : α) (b : β) : List (α × β) → List (α × β)
 | [] => [(k, b)]
 | (a, b') :: r => match eq a with
  | true => (k, b) :: r
  | false => (a, b') :: mset eq k b r

def mdel {α β : Type} (eq : α → Bool) : List (α × β) → List (α × β)
 | [] => []
 | (a, b) :: r => match eq a with
  | true => r
  | false => (a, b) :: mdel eq r

def lookupRes (ok : Bool) (x : V) (b : Bool) : V :=
 match ok with
 | true => .tup [x, .bool b]
 | false => x

def lookK (c : Cd) (tok : Bool) (ok : Bool) (r : Option (c.T × Tok)) (z : V) (s : St) (K : TV → St → Prop) : Prop :=
 (∀ a t, r = some (a, t) → K (.v (lookupRes ok (match tok with | true => c.encT a t | false => c.enc a) true)) s) ∧
 (r = none → K (.v (lookupRes ok z false)) s)

def keyOf (c : Cd) (k : TV) : Option c.T :=
 match k with
 | .v k => match k.one with
  | true => c.dec k
  | false => none
 | _ => none

def lookupK (tt : TT) (t : Nat) (m k : TV) (ok : Bool) (s : St) (K : TV → St → Prop) : Prop :=
 match mapCodes tt t, m with
 | some (kc, vc), .mapr i => match s.hp.getD i none with
  | some (.map kc' vc' es) => match decide (kc' = kc), decide (vc' = vc), keyOf kc' k with
   | true, true, some a => lookK vc' true ok (mfind (kc'.keq a) es) (tt.at (mapElem tt t)).zero s K
   | _, _, _ => False
  | _ => False
 | some (kc, vc), .v (.fmap kc' vc' es) => match decide (kc' = kc), decide (vc' = vc), keyOf kc' k with
  | true, true, some a => lookK vc' false ok ((mfind (kc'.keq a) es).map fun b => (b, .no)) (tt.at (mapElem tt t)).zero s K
  | _, _, _ => False
 | _, _ => False

def V.isAgg : V → Bool
 | .agg _ => true
 | _ => false

def mapUpdateK (tt : TT) (t : Nat) (m k x : TV) (s : St) (K : TV → St → Prop) : Prop :=
 match mapCodes tt t, m with
 | some (kc, vc), .mapr i => match s.hp.getD i none with
  | some (.map kc' vc' es) => match decide (kc' = kc), decide (vc' = vc), keyOf kc' k, vc'.dec x.toV, x.toV.isAgg == vc'.isAgg with
   | true, true, some a, some b, true => K (.v .undef) (s.setO i (.map kc' vc' (mset (kc'.keq a) a (b, x.tok) es)))
   | _, _, _, _, _ => False
  | _ => False
 | _, _ => False

def extractK (x : TV) (i : Nat) (s : St) (K : TV → St → Prop) : Prop :=
 match x with
 | .v (.tup l) => match l[i]? with
  | some y => K (.v y) s
  | none => False
 | .tup l => match l[i]? with
  | some y => K y s
  | none => False
 | _ => False

def builtinK (tt : TT) (b : Builtin) (args : List TV) (ts : List Nat) (s : St) (K : TV → St → Prop) : Prop :=
 match b, args with
 | .len, [x] => match ts with
  | [t] => lenK (tt.at t).k x s K
  | _ => False
 | .append, [x, y] => match ts with
  | [t, t2] => appendK tt t t2 x y s K
  | _ => False
 | .max, [.v (.int k a), .v (.int k' b)] => match decide (k = k') with
  | true => K (.v (.int k (if b > a then b else a))) s
  | false => False
 | .min, [.v (.int k a), .v (.int k' b)] => match decide (k = k') with
  | true => K (.v (.int k (if b < a then b else a))) s
  | false => False
 | _, _ => False

def makeFuncK (f : FuncId) (caps : List TV) (s : St) (K : TV → St → Prop) : Prop :=
 match caps with
 | [] => K (.v (.fn f)) s
 | cs => K (.clo f cs) s

def Md.nm : Md → Md
 | .meth _ _ => .dflt
 | md => md

def invokeK (call : CallP) (md : Md) (m : String) (args : List TV) (s : St) (K : TV → St → Prop) : Prop :=
 match md with
 | .meth _ c => call (.meth m c) 0 args s K
 | _ => False

def opTys : Op → List Nat
 | .index e _ _ | .slice e _ _ _ _ | .alloc e | .load e _ | .store e _ _ | .build e _ | .fieldAddr e _ _ | .field e _ _ | .indexAddr e _ _ | .lookup e _ _ _
 | .mapUpdate e _ _ _ | .makeMap e _ => [e]
 | .convert src dst _ => [src, dst]
 | .call c => match c.callee with
  | .builtin _ => c.argTypes.toList
  | _ => []
 | _ => []

def aop0 (tt : TT) (call : CallP) (md : Md) (o : Oper) (s : St) (K : TV → St → Prop) : Prop :=
 match (opTys o.op).all fun t => (tt.at t).ok with
 | false => False
 | true => match o.op with
 | .move x => K (s.ev tt o.type x) s
 | .assign x => match md, x with
  | .mut, .const (.slice none 0 0) => match sliceElem tt o.type with
   | some e => K (.arr s.hp.length 0 0 0) (s.addO (.arr 0 (tt.at e).code [] (fun _ => .no)))
   | none => False
  | _, x => K (s.ev tt o.type x) s
 | .pick c a b => pickK (s.ev tt 0 c) (s.ev tt o.type a) (s.ev tt o.type b) s K
 | .alloc e => match md with
  | .mut => match sliceElem tt e with
   | some el => K (.ptr (s.hp.length + 1) 0 0 0) ((s.addO (.arr 0 (tt.at el).code [] (fun _ => .no))).addO (.box (.arr s.hp.length 0 0 0)))
   | none => False
  | _ => K (.ptr s.hp.length 0 0 0) (s.addO (.box (.v (tt.at e).zero)))
 | .box e x => match (s.ev tt e x).cells.all TV.one with
  | true => K (.ptr s.hp.length 0 0 0) (s.addO (.box (s.ev tt e x)))
  | false => False
 | .build t parts => buildK tt t (parts.toList.map fun (i, x) => (i, s.ev tt 0 x)) s K
 | .buildSlice t len parts => match md with
  | .mut => buildBoxK tt t len (parts.toList.map fun (i, x) => (i, s.ev tt 0 x)) s K
  | .lend => buildArrK tt t len (parts.toList.map fun (i, x) => (i, s.ev tt 0 x)) s K
  | _ => buildSliceK tt t len (parts.toList.map fun (i, x) => (i, s.ev tt 0 x)) s K
 | .load t a => loadK tt t (s.ev tt 0 a) s K
 | .store t a x => storeK tt t (s.ev tt 0 a) (s.ev tt t x) s K
 | .nilCheck x => match nilOf (s.ev tt 0 x) with
  | some false => K (s.ev tt 0 x) s
  | _ => False
 | .binOp op t x y _ => match md with
  | .mut => binK (tt.at t).ok (tt.at t).k (Region.isConst x || Region.isConst y) op (s.ev tt 0 x) (s.ev tt 0 y) s (litK K)
  | .lend => nilEqK tt op t (s.ev tt 0 x) (s.ev tt 0 y) s K
  | _ => binK (tt.at t).ok (tt.at t).k (Region.isConst x || Region.isConst y) op (s.ev tt 0 x) (s.ev tt 0 y) s K
 | .unOp op _ x => unK op (s.ev tt 0 x) s K
 | .convert src dst x => convertK tt src dst (s.ev tt src x) s K
 | .makeFunc (.func f) first caps => match first.toList with
  | [] => makeFuncK f (caps.toList.map (s.ev tt 0)) s K
  | _ => False
 | .makeMap t none => match mapCodes tt t with
  | some (kc, vc) => K (.mapr s.hp.length) (s.addO (.map kc vc []))
  | none => False
 | .makeSlice t l c => match md with
  | .lend => makeListK tt t (s.ev tt 0 l) (s.ev tt 0 c) s K
  | _ => makeSliceK tt t (s.ev tt 0 l) (s.ev tt 0 c) s K
 | .slice t x lo hi mx => sliceK tt t (s.ev tt t x) (lo.map (s.ev tt 0)) (hi.map (s.ev tt 0)) (mx.map (s.ev tt 0)) s K
 | .fieldAddr t x f => fieldAddrK tt t (s.ev tt 0 x) f s K
 | .field t x f => fieldK tt t (s.ev tt t x) f s K
 | .indexAddr t x i => indexAddrK tt t (s.ev tt t x) (s.ev tt 0 i) s K
 | .index t x i => indexK tt t (s.ev tt t x) (s.ev tt 0 i) s K
 | .lookup t m k ok => lookupK tt t (s.ev tt t m) (s.ev tt 0 k) ok s K
 | .mapUpdate t m k x => mapUpdateK tt t (s.ev tt t m) (s.ev tt 0 k) (s.ev tt 0 x) s K
 | .extract x i => extractK (s.ev tt 0 x) i s K
 | .call c => match c.callee with
  | .builtin b => builtinK tt b (c.args.toList.map (s.ev tt 0)) c.argTypes.toList s K
  | .value f => match s.ev tt 0 f with
   | .v (.fn f) => call md.nm f (c.args.toList.map (s.ev tt 0)) s K
   | .clo f caps => call md.nm f (c.args.toList.map (s.ev tt 0) ++ caps) s K
   | _ => False
  | .invoke r m => invokeK call md m (s.ev tt 0 r :: c.args.toList.map (s.ev tt 0)) s K
 | _ => False

end Go.Proofs.YtdcljlafookliaaDoor.AB

namespace Go.Proofs.YtdcljlafookliaaDoor.AB
open Go


def Xd.at : Xd → List Stp1 → Xd
 | .pair a _, .fst :: p => a.at p
 | .pair _ b, .snd :: p => b.at p
 | .vec _ a, .idx _ :: p => a.at p
 | c, [] => c
 | _, _ => .pure .unit

def Xd.off : Xd → List Stp1 → Nat
 | .pair a _, .fst :: p => a.off p
 | .pair a b, .snd :: p => a.sz + b.off p
 | .vec _ a, .idx i :: p => i * a.sz + a.off p
 | _, _ => 0

def Xd.okp : Xd → List Stp1 → Prop
 | _, [] => True
 | .pair a _, .fst :: p => a.okp p
 | .pair _ b, .snd :: p => b.okp p
 | .vec n a, .idx i :: p => i < n ∧ a.okp p
 | _, _ => False

def Xd.rd : (c : Xd) → List Stp1 → c.T → TV
 | .pair a _, .fst :: p, x => a.rd p x.1
 | .pair _ b, .snd :: p, x => b.rd p x.2
 | .vec _ a, .idx i :: p, x => a.rd p (x i)
 | c, [], x => c.enc x
 | _, _, _ => .v .undef

def Xd.get : (c : Xd) → List TV → Option (c.T × List TV)
 | .pure c, l => match TV.allV (l.take c.sz) with
  | some vs => match c.get (vs.map V.norm0) with
   | some (a, []) => some (a, l.drop c.sz)
   | _ => none
  | none => none
 | .ref c, l => match l with
  | .ref x c' 0 [] :: r => match decide (c' = c) with
   | true => some (x, r)
   | false => none
  | .v .nilp :: r => some (none, r)
  | _ => none
 | .sl c, l => match l with
  | .sl c' x :: r => match decide (c' = c) with
   | true => some (x, r)
   | false => none
  | .v .nils :: r => some (none, r)
  | _ => none
 | .mp kc vc, l => match l with
  | .mp kc' vc' x :: r => match decide (kc' = kc), decide (vc' = vc) with
   | true, true => some (x, r)
   | _, _ => none
  | .v .nilm :: r => some (none, r)
  | _ => none
 | .pair a b, l => match a.get l with
  | some (x, l') => match b.get l' with
   | some (y, l'') => some ((x, y), l'')
   | none => none
  | none => none
 | .vec n a, l => match getVec a.get n l with
  | some (xs, r) => some (fun i => xs.getD i a.dflt, r)
  | none => none
 | .ifc, l => match l with
  | .ifc e :: r => some (e, r)
  | .v .nili :: r => some (none, r)
  | _ => none
where
 getVec {α : Type} (g : List TV → Option (α × List TV)) : Nat → List TV → Option (List α × List TV)
  | 0, l => some ([], l)
  | n + 1, l => match g l with
   | some (x, l') => match getVec g n l' with
    | some (xs, r) => some (x :: xs, r)
    | none => none
   | none => none

def Xd.dec (c : Xd) (x : TV) : Option c.T :=
 match c.get x.cells with
 | some (a, []) => some a
 | _ => none

def Xd.wr : (c : Xd) → List Stp1 → c.T → TV → Option c.T
 | .pair a _, .fst :: p, x, v => match a.wr p x.1 v with
  | some y => some (y, x.2)
  | none => none
 | .pair _ b, .snd :: p, x, v => match b.wr p x.2 v with
  | some y => some (x.1, y)
  | none => none
 | .vec _ a, .idx i :: p, x, v => match a.wr p (x i) v with
  | some y => some (fun j => if j = i then y else x j)
  | none => none
 | c, [], _, v => c.dec v
 | _, _, _, _ => none

def V.zn : V → TV
 | .list _ _ .exact => .v .nils
 | x => .v x

def Xd.zdec (c : Xd) (z : V) : Option c.T :=
 match c.get (z.cells.map V.zn) with
 | some (a, []) => some a
 | _ => none

def fsteps0 : Nat → Nat → List Stp1
 | 0, _ => []
 | 1, _ => []
 | _ + 2, 0 => [.fst]
 | n + 2, f + 1 => .snd :: fsteps0 (n + 1) f

def fsteps (n f : Nat) : List Stp1 :=
 match n with
 | 1 => [.fst]
 | n => fsteps0 n f

def Xd.okB : Xd → List Stp1 → Bool
 | _, [] => true
 | .pair a _, .fst :: p => a.okB p
 | .pair _ b, .snd :: p => b.okB p
 | _, _ => false


def hpX : Hp → Option XH
 | some (.heap X) :: _ => some X
 | _ => none

def XH.at (X : XH) (h : Nat) : Option XO :=
 match Nat.blt h X.n with
 | true => X.f h
 | false => none

def XH.arr (X : XH) (c : Xd) (h : Nat) : Option (List c.T) :=
 match X.at h with
 | some (.arr c' l) => if e : c' = c then some (e ▸ l) else none
 | _ => none

def XH.mp (X : XH) (kc : Cd) (vc : Xd) (h : Nat) : Option (List (kc.T × vc.T)) :=
 match X.at h with
 | some (.map kc' vc' es) => if e : kc' = kc then if e' : vc' = vc then some (by subst e; subst e'; exact es) else none else none
 | _ => none

def XH.el (X : XH) (c : Xd) (h e : Nat) : Option c.T :=
 match X.arr c h with
 | some l => l[e]?
 | none => none

def XH.set (X : XH) (h : Nat) (o : XO) : XH := ⟨X.n, fun k => if k = h then some o else X.f k⟩

def XH.setEl (X : XH) (c : Xd) (h e : Nat) (a : c.T) : XH :=
 match X.arr c h with
 | some l => X.set h (.arr c (l.set e a))
 | none => X

def XH.add (X : XH) (o : XO) : XH := ⟨X.n + 1, fun k => if k = X.n then some o else X.f k⟩

def slN : Option SlH → Nat
 | none => 0
 | some s => s.len

def slC : Option SlH → Nat
 | none => 0
 | some s => s.cap

def slCut (x : Option SlH) (a b m : Nat) : Option SlH :=
 match x with
 | none => none
 | some s => some ⟨s.h, s.off + a, b - a, m - a⟩

def XH.view (X : XH) (c : Xd) (x : Option SlH) : Option (List c.T) :=
 match x with
 | none => some []
 | some s => match X.arr c s.h with
  | some l => some ((l.drop s.off).take s.len)
  | none => none

def XH.vmp (X : XH) (kc : Cd) (vc : Xd) (x : Option Nat) : Option (List (kc.T × vc.T)) :=
 match x with
 | none => some []
 | some h => X.mp kc vc h

def over {α : Type} (l : List α) (k : Nat) (l' : List α) : List α := l.take k ++ l' ++ l.drop (k + l'.length)

def XH.over (X : XH) (c : Xd) (x : Option SlH) (k : Nat) (l' : List c.T) : XH :=
 match x with
 | none => X
 | some s => match X.arr c s.h with
  | some a => X.set s.h (.arr c (AB.over a (s.off + k) l'))
  | none => X

inductive XApp (X : XH) (c : Xd) (z : c.T) (l l' : List c.T) : Option SlH → XH → Option SlH → Prop where
 | none (h : l' = []) : XApp X c z l l' none X none
 | room (s : SlH) (h : s.len + l'.length ≤ s.cap) : XApp X c z l l' (some s) (X.over c (some s) s.len l') (some ⟨s.h, s.off, s.len + l'.length, s.cap⟩)
 | grow (x : Option SlH) (k : Nat) (h : slC x < slN x + l'.length) :
   XApp X c z l l' x (X.add (.arr c (l ++ l' ++ List.replicate k z))) (some ⟨X.n, 0, slN x + l'.length, slN x + l'.length + k⟩)


def isXv : TV → Bool
 | .ref _ _ _ _ | .sl _ _ | .mp _ _ _ | .ifc _ => true
 | _ => false

def anyX : List TV → Bool
 | [] => false
 | x :: l => match isXv x with
  | true => true
  | false => anyX l

def St.evx (tt : TT) (ty : Nat) (s : St) : Operand → TV
 | .const (.slice none 0 0) => .v .nils
 | o => s.ev tt ty o

def isX (tt : TT) (md : Md) (o : Oper) (s : St) : Bool :=
 match md with
 | .x _ => true
 | _ => match o.op with
  | .load _ a | .store _ a _ | .fieldAddr _ a _ | .nilCheck a | .indexAddr _ a _ | .slice _ a _ _ _ | .lookup _ a _ _ | .mapUpdate _ a _ _ | .convert _ _ a => isXv (s.ev tt 0 a)
  | .binOp _ _ x y _ => match isXv (s.ev tt 0 x) with
   | true => true
   | false => isXv (s.ev tt 0 y)
  | .call c => match c.callee with
   | .builtin _ => anyX (c.args.toList.map (s.ev tt 0))
   | _ => false
  | .makeInterface _ _ => true
  | .typeAssert _ _ _ _ => true
  | _ => false

def fitX (tt : TT) (t : Nat) (c : Xd) : Bool := (tt.at t).ok && Nat.beq c.sz (tt.at t).size && c.isAgg == (tt.at t).k.isAgg

def elemX (tt : TT) (e : Nat) (c : Xd) : Option c.T :=
 match (tt.at e).ok && Nat.beq c.sz (tt.at e).size && (Nat.blt 0 (tt.at e).bytes && Nat.blt 0 (tt.at e).size) && c.isAgg == (tt.at e).k.isAgg with
 | true => c.zdec (tt.at e).zero
 | false => none

def slT (tt : TT) (t : Nat) : Option Nat :=
 match (tt.at t).ok, (tt.at t).k with
 | true, .slice e => some e
 | _, _ => none

def setX (s : St) (X : XH) : St := s.setO 0 (.heap X)

def nameX (s : St) (X : XH) (x : TV) (K : TV → St → Prop) : Prop := ∀ X', X' = X → K x (setX s X')

def xload (tt : TT) (t : Nat) (p : TV) (s : St) (K : TV → St → Prop) : Prop :=
 match p, hpX s.hp with
 | .ref (some h) c e p, some X => match fitX tt t (c.at p) with
  | true => ∃ a, X.el c h e = some a ∧ K (c.rd p a) s
  | false => False
 | _, _ => False

def xstore (tt : TT) (t : Nat) (p x : TV) (s : St) (K : TV → St → Prop) : Prop :=
 match p, hpX s.hp with
 | .ref (some h) c e p, some X => match fitX tt t (c.at p) with
  | true => ∃ a, X.el c h e = some a ∧ match c.wr p a x with
   | some a' => nameX s (X.setEl c h e a') (.v .undef) K
   | none => False
  | false => False
 | _, _ => False

def refK (x : Option Nat) (K : Nat → Prop) : Prop :=
 match x with
 | some h => K h
 | none => False

theorem refK_iff {x : Option Nat} {K : Nat → Prop} : refK x K ↔ ∃ h, x = some h ∧ K h := by
 cases x <;> simp [refK]

def xnilCheck (x : TV) (s : St) (K : TV → St → Prop) : Prop :=
 match x with
 | .ref x c e p => refK x fun h => K (.ref (some h) c e p) s
 | _ => False

def nilV : TK → TV → Bool
 | .ptr _, .v .nilp => true
 | .map _ _, .v .nilm => true
 | .slice _, .v .nils => true
 | .iface, .v .nili => true
 | _, _ => false

def nilX (k : TK) (x : TV) : Option Bool :=
 match k, x with
 | .ptr _, .ref x _ 0 [] => some x.isNone
 | .ptr _, .ref (some _) _ _ _ => some false
 | .map _ _, .mp _ _ x => some x.isNone
 | .iface, .ifc x => some x.isNone
 | _, _ => none

def xbin (tt : TT) (op : BinOp) (t : Nat) (x y : TV) (s : St) (K : TV → St → Prop) : Prop :=
 match (tt.at t).ok, nilX (tt.at t).k x, nilV (tt.at t).k y with
 | true, some b, true => match op with
  | .eql => K (.v (.bool b)) s
  | .neq => K (.v (.bool (!b))) s
  | _ => False
 | _, _, _ => False

def xbinL (tt : TT) (op : BinOp) (t : Nat) (x y : TV) (s : St) (K : TV → St → Prop) : Prop :=
 match (tt.at t).ok, (tt.at t).k, x, y with
 | true, .slice _, .sl _ x, .v .nils => ∀ b : Bool, (b = true → x = none) → match op with
  | .eql => K (.v (.bool b)) s
  | .neq => K (.v (.bool (!b))) s
  | _ => False
 | _, _, _, _ => False

def xlit0 (tt : TT) (c : Xd) (t : Nat) (parts : List (Nat × TV)) (s : St) (K : TV → St → Prop) : Prop :=
 match slT tt t, parts with
 | some e, [] => match fitX tt e c with
  | true => K (.sl c none) s
  | false => False
 | _, _ => False

def xfieldAddr (tt : TT) (t : Nat) (x : TV) (f : Nat) (s : St) (K : TV → St → Prop) : Prop :=
 match (tt.at t).k, x with
 | .strct fs, .ref (some h) c e p => match fs[f]? with
  | some (off, ft) => match (c.at p).okB (fsteps fs.length f) && Nat.beq ((c.at p).off (fsteps fs.length f)) off && Nat.ble 1 (tt.at ft).size with
   | true => K (.ref (some h) c e (p ++ fsteps fs.length f)) s
   | false => False
  | none => False
 | _, _ => False

def xindexAddr (tt : TT) (t : Nat) (x ix : TV) (s : St) (K : TV → St → Prop) : Prop :=
 match x, ix with
 | .sl c x, .v (.int _ i) => match slT tt t with
  | some e => match fitX tt e c with
   | true => ∃ u, x = some u ∧ 0 ≤ i ∧ i < u.len ∧ K (.ref (some u.h) c (u.off + i.toNat) []) s
   | false => False
  | none => False
 | .ref (some h) c e p, .v (.int _ i) => match (tt.at t).ok, (tt.at t).k, c.at p with
  | true, .arr n' el, .vec n a => match Nat.beq n n' && fitX tt el a with
   | true => 0 ≤ i ∧ i < n ∧ K (.ref (some h) c e (p ++ [.idx i.toNat])) s
   | false => False
  | _, _, _ => False
 | _, _ => False

def boundsX (len cap : Nat) (lo hi : Option TV) (K : Nat → Nat → Prop) : Prop :=
 match lo, hi with
 | none, none => K 0 len
 | some (.v (.int _ l)), none => 0 ≤ l ∧ l ≤ len ∧ K l.toNat len
 | none, some (.v (.int _ h)) => 0 ≤ h ∧ h ≤ cap ∧ K 0 h.toNat
 | some (.v (.int _ l)), some (.v (.int _ h)) => 0 ≤ l ∧ l ≤ h ∧ h ≤ cap ∧ K l.toNat h.toNat
 | _, _ => False

def xslice (tt : TT) (t : Nat) (x : TV) (lo hi mx : Option TV) (s : St) (K : TV → St → Prop) : Prop :=
 match x, slT tt t with
 | .sl c x, some e => match fitX tt e c with
  | true => match mx with
   | none => boundsX (slN x) (slC x) lo hi fun a b => K (.sl c (slCut x a b (slC x))) s
   | some (.v (.int _ m)) => match hi with
    | some _ => 0 ≤ m ∧ m ≤ slC x ∧ boundsX (slN x) m.toNat lo hi fun a b => K (.sl c (slCut x a b m.toNat)) s
    | none => False
   | _ => False
  | false => False
 | _, _ => False

def srcX (X : XH) (c : Xd) (x : TV) : Option (List c.T) :=
 match x with
 | .sl c' y => if e : c' = c then X.view c y else none
 | .v (.list d l _) => if e : Xd.pure d = c then some (by subst e; exact l) else none
 | .v (.str l) => if e : Xd.pure (.int .u8) = c then some (by subst e; exact bytesOf l) else none
 | _ => none

def slOf (c : Xd) : TV → Option (Option SlH)
 | .sl c' x => match decide (c' = c) with
  | true => some x
  | false => none
 | .v .nils => some none
 | _ => none

def xappend (tt : TT) (c : Xd) (t t2 : Nat) (x y : TV) (s : St) (K : TV → St → Prop) : Prop :=
 match slT tt t, isSrcK (tt.at t2).k, slOf c x, hpX s.hp with
 | some e, true, some x, some X => match elemX tt e c with
  | some z => ∃ l l', X.view c x = some l ∧ srcX X c y = some l' ∧ (slN x + l'.length) * (tt.at e).bytes ≤ room ∧
    ∀ X' x', XApp X c z l l' x X' x' → K (.sl c x') (setX s X')
  | none => False
 | _, _, _, _ => False

def xappendZ (tt : TT) (c : Xd) (t : Nat) (k2 : TK) (x y : TV) (s : St) (K : TV → St → Prop) : Prop :=
 match slT tt t, k2, y, hpX s.hp with
 | some e, .int _, .v (.int .i64 n), some X => match slOf c x, elemX tt e c with
  | some x, some z => 0 ≤ n ∧ ∃ l, X.view c x = some l ∧ (slN x + n.toNat) * (tt.at e).bytes ≤ room ∧
    ∀ X' x', XApp X c z l (List.replicate n.toNat z) x X' x' → K (.sl c x') (setX s X')
  | _, _ => False
 | _, _, _, _ => False

def xappendA (tt : TT) (c : Xd) (t t2 : Nat) (x y : TV) (s : St) (K : TV → St → Prop) : Prop :=
 match isSrcK (tt.at t2).k with
 | true => xappend tt c t t2 x y s K
 | false => xappendZ tt c t (tt.at t2).k x y s K

def xappendV (tt : TT) (t t2 : Nat) (c : Cd) (l : List c.T) (tk : Tok) (y : TV) (s : St) (K : TV → St → Prop) : Prop :=
 match sliceElem tt t, isSrcK (tt.at t2).k, y, hpX s.hp with
 | some e, true, .sl (.pure d) y, some X => match decide (c = (tt.at e).code), decide (d = c) with
  | true, true => ∃ l' : List d.T, X.view (.pure d) y = some l' ∧ tk.own s.T.l ∧ (l.length + l'.length) * (tt.at e).bytes ≤ room ∧
   K (.v (.list d ((if h : c = d then h ▸ l else []) ++ l') (.tk s.T.n))) { s with T := ⟨s.T.n + 1, s.T.n :: tk.drop s.T.l⟩ }
  | _, _ => False
 | _, _, _, _ => False

def xcopy (tt : TT) (t : Nat) (x y : TV) (s : St) (K : TV → St → Prop) : Prop :=
 match slT tt t, x, hpX s.hp with
 | some e, .sl c x, some X => match fitX tt e c with
  | true => ∃ d l, X.view c x = some d ∧ srcX X c y = some l ∧ nameX s (X.over c x 0 (l.take (slN x))) (.v (.int .i64 (min l.length (slN x) : Nat))) K
  | false => False
 | _, _, _ => False

def xclear (tt : TT) (t : Nat) (x : TV) (s : St) (K : TV → St → Prop) : Prop :=
 match slT tt t, x, hpX s.hp with
 | some e, .sl c x, some X => match elemX tt e c with
  | some z => ∃ d, X.view c x = some d ∧ nameX s (X.over c x 0 (List.replicate (slN x) z)) (.v (.tup [])) K
  | none => False
 | _, _, _ => False

def mapT (tt : TT) (t : Nat) (kc : Cd) : Option Nat :=
 match (tt.at t).ok, (tt.at t).k with
 | true, .map k e => match (tt.at k).ok && (tt.at e).ok && keyKind (tt.at k).k kc with
  | true => some e
  | false => none
 | _, _ => none

def lookTV (ok : Bool) (x : TV) (b : Bool) : TV :=
 match ok with
 | true => TV.mkTup [x, .v (.bool b)]
 | false => x

def xlookup (tt : TT) (t : Nat) (m k : TV) (ok : Bool) (s : St) (K : TV → St → Prop) : Prop :=
 match m, hpX s.hp with
 | .mp kc vc x, some X => match mapT tt t kc, keyOf kc k with
  | some e, some a => match fitX tt e vc && (tt.at e).zero.isAgg == vc.isAgg, vc.zdec (tt.at e).zero with
   | true, some z => ∃ es, X.vmp kc vc x = some es ∧
     (∀ v, mfind (kc.keq a) es = some v → K (lookTV ok (vc.enc v) true) s) ∧ (mfind (kc.keq a) es = none → K (lookTV ok (vc.enc z) false) s)
   | _, _ => False
  | _, _ => False
 | _, _ => False

def TV.isAg : TV → Bool
 | .v (.agg _) | .agg _ => true
 | _ => false

def xmapUpdate (tt : TT) (t : Nat) (m k v : TV) (s : St) (K : TV → St → Prop) : Prop :=
 match m, hpX s.hp with
 | .mp kc vc x, some X => match mapT tt t kc, keyOf kc k, vc.dec v with
  | some e, some a, some b => match fitX tt e vc && v.isAg == vc.isAgg with
   | true => ∃ h es, x = some h ∧ X.mp kc vc h = some es ∧ nameX s (X.set h (.map kc vc (mset (kc.keq a) a b es))) (.v .undef) K
   | false => False
  | _, _, _ => False
 | _, _ => False

def xdelete (tt : TT) (t : Nat) (m k : TV) (s : St) (K : TV → St → Prop) : Prop :=
 match m, hpX s.hp with
 | .mp kc vc x, some X => match mapT tt t kc, keyOf kc k with
  | some e, some a => ∃ h es, x = some h ∧ X.mp kc vc h = some es ∧ nameX s (X.set h (.map kc vc (mdel (kc.keq a) es))) (.v (.tup [])) K
  | _, _ => False
 | _, _ => False

def xlen (tt : TT) (t : Nat) (x : TV) (s : St) (K : TV → St → Prop) : Prop :=
 match (tt.at t).k, x, hpX s.hp with
 | .slice _, .sl c x, _ => K (.v (.int .i64 (slN x : Nat))) s
 | .map _ _, .mp kc vc x, some X => ∃ es, X.vmp kc vc x = some es ∧ K (.v (.int .i64 (es.length : Nat))) s
 | _, _, _ => False

def xcap (tt : TT) (t : Nat) (x : TV) (s : St) (K : TV → St → Prop) : Prop :=
 match (tt.at t).k, x with
 | .slice _, .sl c x => K (.v (.int .i64 (slC x : Nat))) s
 | _, _ => False

def xbuiltin (tt : TT) (md : Md) (b : Builtin) (args : List TV) (ts : List Nat) (s : St) (K : TV → St → Prop) : Prop :=
 match b, args, ts with
 | .len, [x], [t] => xlen tt t x s K
 | .cap, [x], [t] => xcap tt t x s K
 | .append, [x, y], [t, t2] => match md with
  | .x c => xappendA tt c t t2 x y s K
  | _ => match x with
   | .v (.list c l tk) => xappendV tt t t2 c l tk y s K
   | _ => False
 | .copy, [x, y], [t, _] => xcopy tt t x y s K
 | .clear, [x], [t] => xclear tt t x s K
 | .delete, [m, k], [t, _] => xdelete tt t m k s K
 | _, _, _ => False

def xalloc (tt : TT) (c : Xd) (e : Nat) (s : St) (K : TV → St → Prop) : Prop :=
 match elemX tt e c, hpX s.hp with
 | some z, some X => nameX s (X.add (.arr c [z])) (.ref (some X.n) c 0 []) K
 | _, _ => False

def xbox (tt : TT) (c : Xd) (e : Nat) (x : TV) (s : St) (K : TV → St → Prop) : Prop :=
 match fitX tt e c, c.dec x, hpX s.hp with
 | true, some a, some X => nameX s (X.add (.arr c [a])) (.ref (some X.n) c 0 []) K
 | _, _, _ => False

def xbuild (tt : TT) (t : Nat) (parts : List (Nat × TV)) (s : St) (K : TV → St → Prop) : Prop :=
 match (tt.at t).k.isAgg with
 | true => match fillC ((tt.at t).k.place tt) ((tt.at t).zero.cells.map V.zn) parts with
  | some cs => K (TV.mkAgg cs) s
  | none => False
 | false => False

def xmake (tt : TT) (c : Xd) (t : Nat) (l m : TV) (s : St) (K : TV → St → Prop) : Prop :=
 match slT tt t, l, m, hpX s.hp with
 | some e, .v (.int _ n), .v (.int _ m), some X => match elemX tt e c with
  | some z => 0 ≤ n ∧ n ≤ m ∧ m * (tt.at e).bytes ≤ room ∧ m ≤ 9223372036854775807 ∧
    nameX s (X.add (.arr c (List.replicate m.toNat z))) (.sl c (some ⟨X.n, 0, n.toNat, m.toNat⟩)) K
  | none => False
 | _, _, _, _ => False

def xmakeMap (tt : TT) (kc : Cd) (vc : Xd) (t : Nat) (s : St) (K : TV → St → Prop) : Prop :=
 match mapT tt t kc, hpX s.hp with
 | some e, some X => match fitX tt e vc with
  | true => nameX s (X.add (.map kc vc [])) (.mp kc vc (some X.n)) K
  | false => False
 | _, _ => False

def litX (c : Xd) : Nat → List (Nat × TV) → Option (List c.T)
 | _, [] => some []
 | i, (j, x) :: r => match Nat.beq i j, c.dec x with
  | true, some a => match litX c (i + 1) r with
   | some l => some (a :: l)
   | none => none
  | _, _ => none

def xlit (tt : TT) (c : Xd) (t len : Nat) (parts : List (Nat × TV)) (s : St) (K : TV → St → Prop) : Prop :=
 match slT tt t, hpX s.hp with
 | some e, some X => match fitX tt e c && Nat.blt 0 (tt.at e).size && Nat.beq parts.length len && Nat.ble (len * (tt.at e).size) 16777216, litX c 0 parts with
  | true, some l => nameX s (X.add (.arr c l)) (.sl c (some ⟨X.n, 0, len, len⟩)) K
  | _, _ => False
 | _, _ => False

def xnil (c : Xd) (x : TV) (s : St) (K : TV → St → Prop) : Prop :=
 match c, x with
 | .sl c, .v .nils => K (.sl c none) s
 | .ref c, .v .nilp => K (.ref none c 0 []) s
 | .mp kc vc, .v .nilm => K (.mp kc vc none) s
 | _, _ => False

def xconvert (tt : TT) (src dst : Nat) (x : TV) (s : St) (K : TV → St → Prop) : Prop :=
 match x, hpX s.hp with
 | .sl (.pure (.int .u8)) x, some X => match (tt.at dst).k, slT tt src with
  | .str, some e => match (tt.at e).k, fitX tt e (.pure (.int .u8)) with
   | .int .u8, true => ∃ l, X.view (.pure (.int .u8)) x = some l ∧ K (.v (.str (ofBytes l))) s
   | _, _ => False
  | _, _ => False
 | _, _ => False

def ifOf : TV → Option (Option (Nat × CV))
 | .ifc e => some e
 | .v .nili => some none
 | _ => none

def TK.isStr : TK → Bool
 | .strct _ => true
 | _ => false

def xmkI (tt : TT) (t : Nat) (x : TV) (s : St) (K : TV → St → Prop) : Prop :=
 match (tt.at t).ok && (tt.at t).k.isStr && (tt.at t).code.isAgg && x.isAg, (Xd.pure (tt.at t).code).dec x with
 | true, some a => K (.ifc (some (t, ⟨(tt.at t).code, a⟩))) s
 | _, _ => False

def xassert (tt : TT) (t : Nat) (ok : Bool) (x : TV) (s : St) (K : TV → St → Prop) : Prop :=
 match (tt.at t).ok && (tt.at t).k.isStr, ifOf x with
 | true, some e => (∀ y, e = some (t, y) → ∃ a, y = ⟨(tt.at t).code, a⟩ ∧ match ok with
   | true => K (.v (.tup [(tt.at t).code.enc a, .tt])) s
   | false => K (.v ((tt.at t).code.enc a)) s) ∧
  ((∀ y, e ≠ some (t, y)) → match ok with
   | true => K (.v (.tup [(tt.at t).zero, .ff])) s
   | false => False)
 | _, _ => False

def xaop (tt : TT) (md : Md) (o : Oper) (s : St) (K : TV → St → Prop) : Prop :=
 match o.op with
 | .load t a => xload tt t (s.ev tt 0 a) s K
 | .store t a x => xstore tt t (s.ev tt 0 a) (s.evx tt t x) s K
 | .nilCheck x => xnilCheck (s.ev tt 0 x) s K
 | .binOp op t x y _ => match isXv (s.ev tt 0 x), Region.isConst y with
  | true, true => match md with
   | .lend => xbinL tt op t (s.ev tt 0 x) (s.evx tt t y) s K
   | _ => xbin tt op t (s.ev tt 0 x) (s.evx tt t y) s K
  | _, _ => False
 | .fieldAddr t x f => xfieldAddr tt t (s.ev tt 0 x) f s K
 | .indexAddr t x i => xindexAddr tt t (s.ev tt 0 x) (s.ev tt 0 i) s K
 | .slice t x lo hi mx => xslice tt t (s.ev tt 0 x) (lo.map (s.ev tt 0)) (hi.map (s.ev tt 0)) (mx.map (s.ev tt 0)) s K
 | .lookup t m k ok => xlookup tt t (s.ev tt 0 m) (s.ev tt 0 k) ok s K
 | .mapUpdate t m k x => xmapUpdate tt t (s.ev tt 0 m) (s.ev tt 0 k) (s.evx tt 0 x) s K
 | .convert src dst x => xconvert tt src dst (s.ev tt src x) s K
 | .alloc e => match md with
  | .x c => xalloc tt c e s K
  | _ => False
 | .box e x => match md with
  | .x c => xbox tt c e (s.evx tt e x) s K
  | _ => False
 | .build t parts => xbuild tt t (parts.toList.map fun (i, x) => (i, s.evx tt 0 x)) s K
 | .buildSlice t len parts => match md with
  | .x c => match len with
   | 0 => xlit0 tt c t (parts.toList.map fun (i, x) => (i, s.evx tt 0 x)) s K
   | len + 1 => xlit tt c t (len + 1) (parts.toList.map fun (i, x) => (i, s.evx tt 0 x)) s K
  | _ => False
 | .makeSlice t l m => match md with
  | .x c => xmake tt c t (s.ev tt 0 l) (s.ev tt 0 m) s K
  | _ => False
 | .makeMap t none => match md with
  | .x (.mp kc vc) => xmakeMap tt kc vc t s K
  | _ => False
 | .assign x => match md with
  | .x c => xnil c (s.evx tt 0 x) s K
  | _ => False
 | .call c => match c.callee with
  | .builtin b => xbuiltin tt md b (c.args.toList.map (s.evx tt 0)) c.argTypes.toList s K
  | _ => False
 | .makeInterface t x => xmkI tt t (s.ev tt t x) s K
 | .typeAssert x _ t ok => xassert tt t ok (s.ev tt 0 x) s K
 | _ => False

end Go.Proofs.YtdcljlafookliaaDoor.AB

namespace Go.Proofs.YtdcljlafookliaaDoor.AB
open Go

def aop (tt : TT) (call : CallP) (md : Md) (o : Oper) (s : St) (K : TV → St → Prop) : Prop :=
 match isX tt md o s with
 | true => match (opTys o.op).all fun t => (tt.at t).ok with
  | true => xaop tt md o s K
  | false => False
 | false => aop0 tt call md o s K

def guardK (ops : Array Oper) (s : St) (g : Option (Nat × Bool)) (run : St → Prop) (skip : St → Prop) : Prop :=
 match g with
 | none => run s
 | some (j, want) => match (ops[j]?).bind (·.dst) with
  | some t => match s.tm.getD t (.v .undef) with
   | .v .tt => cond want (run s) (skip s)
   | .v .ff => cond want (skip s) (run s)
   | .v (.bool b) =>
    (b = true → cond want (run (s.put (some t) (.v .tt))) (skip (s.put (some t) (.v .tt)))) ∧
    (b = false → cond want (skip (s.put (some t) (.v .ff))) (run (s.put (some t) (.v .ff))))
   | .v (.tup []) => skip s
   | _ => False
  | none => False

def awpL (tt : TT) (call : CallP) (md : Mds) (rid : Nat) (ops : Array Oper) : Nat → List Oper → (St → Prop) → St → Prop
 | _, [], K, s => K s
 | i, o :: r, K, s => guardK ops s o.guard
   (fun s => aop tt call (md.at rid i) o s fun x s' => awpL tt call md rid ops (i + 1) r K (s'.put o.dst x))
   (fun s => awpL tt call md rid ops (i + 1) r K (s.put o.dst (.v (.tup []))))

def vq : TV → Nat
 | .v _ => 0
 | _ => 1

def vql : TV → Nat
 | .v _ => 0
 | .sl _ _ => 0
 | _ => 1

def vqs : List TV → Nat
 | [] => 0
 | .v _ :: l => vqs l
 | _ :: _ => 1

def clsApp (md : Md) (args : List TV) : Nat :=
 match md with
 | .x _ => 3
 | _ => match anyX args with
  | true => 3
  | false => match args with
   | .v (.list _ _ _) :: _ => 4
   | _ => 2

def clsB (md : Md) (b : Builtin) (args : List TV) : Nat :=
 match b with
 | .append => clsApp md args
 | .copy => 2
 | .clear => 2
 | .delete => 2
 | _ => vqs args

def clsV (md : Md) : Nat :=
 match md with
 | .dflt => 0
 | .meth _ _ => 3
 | .rd => 1
 | _ => 3

def clsM (md : Md) : Nat :=
 match md with
 | .meth _ _ => 0
 | _ => 3

def clsBS (md : Md) (len : Nat) : Nat :=
 match md with
 | .mut => 2
 | .lend => 2
 | .x _ => match len with
  | 0 => 0
  | _ + 1 => 2
 | _ => 0

def clsAs (md : Md) : Nat :=
 match md with
 | .mut => 2
 | _ => 0

def clsBi (md : Md) : Nat :=
 match md with
 | .lend => 3
 | _ => 0

def clsCv (md : Md) (x : TV) : Nat :=
 match md with
 | .x _ => 2
 | _ => vq x

def cls (tt : TT) (md : Md) (o : Oper) (s : St) : Nat :=
 match o.op with
 | .load _ a => vq (s.ev tt 0 a)
 | .convert src _ a => clsCv md (s.ev tt src a)
 | .binOp _ _ _ _ _ => clsBi md
 | .slice t x _ _ _ => vql (s.ev tt t x)
 | .indexAddr t x _ => vql (s.ev tt t x)
 | .lookup t m _ _ => vq (s.ev tt t m)
 | .alloc _ | .box _ _ | .store _ _ _ | .makeMap _ _ | .makeSlice _ _ _ | .mapUpdate _ _ _ _ => 2
 | .assign _ => clsAs md
 | .buildSlice _ len _ => clsBS md len
 | .call c => match c.callee with
  | .builtin b => clsB md b (c.args.toList.map (s.ev tt 0))
  | .value _ => clsV md
  | .invoke _ _ => clsM md
 | _ => 0

def isAdd : Op → Bool
 | .alloc _ | .box _ _ | .makeMap _ _ | .makeSlice _ _ _ | .buildSlice _ _ _ => true
 | _ => false

def clsG (tt : TT) (md : Md) (o : Oper) (s : St) : Nat :=
 match isX tt md o s with
 | true => match cls tt md o s with
  | 1 => 5
  | 2 => match isAdd o.op with
   | true => 6
   | false => 2
  | c => c
 | false => cls tt md o s

def isLoc (tt : TT) (o : Oper) (s : St) : Bool :=
 match o.op with
 | .load _ a => match s.ev tt 0 a with
  | .ptr (_ + 1) _ _ _ => true
  | _ => false
 | _ => false

def isAl (md : Md) (o : Oper) : Bool :=
 match o.op with
 | .alloc _ => match md with
  | .x _ => false
  | .mut => false
  | _ => true
 | _ => false

def clsH (tt : TT) (md : Md) (o : Oper) (s : St) : Nat :=
 match isLoc tt o s with
 | true => 8
 | false => match isAl md o with
  | true => 9
  | false => clsG tt md o s

def ancRow (rows : List Nat) : List Edge → Nat
 | [] => 0
 | e :: r => cond (Region.binds .any e) (Nat.lor (Nat.lor (2 ^ e.on) (rows.getD e.on 0)) (ancRow rows r)) (ancRow rows r)

def edgesOK (n : Nat) (l : List Edge) : Bool := l.all fun e => !Region.binds .any e || Nat.blt e.on n

def isEf (c : Nat) : Bool := Nat.beq c 2 || Nat.beq c 6 || Nat.beq c 7 || Nat.beq c 9
def isRd (c : Nat) : Bool := Nat.beq c 1 || Nat.beq c 5 || Nat.beq c 8

def compat (c c' : Nat) : Bool := (!(isEf c && isEf c') && !(isEf c && isRd c') && !(isRd c && isEf c')) || (Nat.beq c 5 && Nat.beq c' 6) || (Nat.beq c 8 && Nat.beq c' 7) || (Nat.beq c 8 && Nat.beq c' 9)

def has4 : List Nat → Bool
 | [] => false
 | c :: l => match Nat.beq c 4 with
  | true => true
  | false => has4 l

def pairsOK (ops : Array Oper) (row : Nat) (o : Oper) (c : Nat) : Nat → List (Oper × Nat) → Bool
 | _, [] => true
 | j, p :: r => (Nat.testBit row j || (p.1.apart ops o && compat p.2 c)) && pairsOK ops row o c (j + 1) r

def drawGo (ops : Array Oper) (prev : List (Oper × Nat)) (rows : List Nat) : List Oper → List Nat → Bool
 | [], [] => true
 | o :: r, c :: cs => edgesOK rows.length o.after.toList && pairsOK ops (ancRow rows o.after.toList) o c 0 prev &&
   drawGo ops (prev ++ [(o, c)]) (rows ++ [ancRow rows o.after.toList]) r cs
 | _ :: _, [] => true
 | [], _ :: _ => false

def isBar (md : Md) (o : Oper) : Bool :=
 match o.op with
 | .call c => match c.callee with
  | .value _ => match md with
   | .inl => true
   | .lend => true
   | .xc => true
   | _ => false
  | .builtin .append => match md with
   | .x _ => true
   | _ => false
  | _ => false
 | _ => false

def allBits (row : Nat) : Nat → Bool
 | 0 => true
 | k + 1 => Nat.testBit row k && allBits row k

def dm (o : Oper) : Bool :=
 match o.dst with
 | some _ => false
 | none => match o.op with
  | .move _ => match o.guard with
   | none => match o.after.toList with
    | [] => true
    | _ => false
   | _ => false
  | _ => false

def dmMask : List Oper → Nat → Nat
 | [], _ => 0
 | o :: r, i => cond (dm o) (Nat.lor (2 ^ i) (dmMask r (i + 1))) (dmMask r (i + 1))

def tailGo (zm b : Nat) (rows : List Nat) : List Oper → Bool
 | [] => true
 | o :: r => (Nat.blt rows.length b || dm o || (edgesOK rows.length o.after.toList && allBits (Nat.lor zm (ancRow rows o.after.toList)) rows.length)) && tailGo zm b (rows ++ [ancRow rows o.after.toList]) r

def tailOK (ops : Array Oper) (b : Nat) : Bool := tailGo (dmMask ops.toList 0) b [] ops.toList

def Mds.z : Mds → Nat → Nat → Bool
 | [], _, _ => false
 | (r, i, _) :: l, r', i' => (Nat.beq r (r' + 1000000) && Nat.beq i i') || Mds.z l r' i'

def Mds.anyZ : Mds → Nat → Bool
 | [], _ => false
 | (r, _, _) :: l, r' => Nat.beq r (r' + 1000000) || Mds.anyZ l r'

def noop : Oper := ⟨none, .move (.const (.bool true)), 0, "", #[], none⟩

def blankL (md : Mds) (rid : Nat) : Nat → List Oper → List Oper
 | _, [] => []
 | i, o :: r => cond (md.z rid i) noop o :: blankL md rid (i + 1) r

def blank (md : Mds) (rid : Nat) (ops : Array Oper) : Array Oper := (blankL md rid 0 ops.toList).toArray

def zKind (o : Oper) : Bool :=
 match o.guard with
 | some _ => false
 | none => match o.op with
  | .move _ => true
  | _ => false

def gOK (md : Mds) (rid : Nat) (o : Oper) : Bool :=
 match o.guard with
 | none => true
 | some (j, _) => !md.z rid j

def zChk (md : Mds) (rid : Nat) (ops : Array Oper) : Nat → List Oper → Array Bool → Bool
 | _, [], _ => true
 | i, o :: r, ls => match md.z rid i with
  | true => zKind o && Region.free .any ops ls i && (Region.ready .any ops ls).contains i && zChk md rid ops (i + 1) r (ls.setIfInBounds i true)
  | false => gOK md rid o && zChk md rid ops (i + 1) r ls

def noDm (l : List Oper) : Bool := l.all fun o => !dm o

def zOK (md : Mds) (rid : Nat) (ops : Array Oper) : Bool :=
 noDm ops.toList && Region.noSelect ops && zChk md rid ops 0 ops.toList (Array.replicate ops.size false)

def zPre (tt : TT) (call : CallP) (md : Mds) (rid : Nat) : Nat → List Oper → (St → Prop) → St → Prop
 | _, [], K, s => K s
 | i, o :: r, K, s => match md.z rid i with
  | true => aop tt call .dflt o s fun x s' => zPre tt call md rid (i + 1) r K (s'.put o.dst x)
  | false => zPre tt call md rid (i + 1) r K s

def has7 : List Nat → Bool
 | [] => false
 | c :: l => match Nat.beq c 7 with
  | true => true
  | false => has7 l

def drawOK (ops : Array Oper) (cl : List Nat) : Bool := drawGo ops [] [] ops.toList cl && !(has7 cl && has4 cl)

def barGo (b : Nat) (rows : List Nat) : List Oper → Bool
 | [] => true
 | o :: r => (Nat.ble rows.length b || dm o || Nat.testBit (ancRow rows o.after.toList) b) && barGo b (rows ++ [ancRow rows o.after.toList]) r

def isNd (md : Md) (o : Oper) : Bool :=
 match o.guard with
 | some _ => false
 | none => match o.op with
  | .call c => match c.callee with
   | .value _ => match md with
    | .xc => true
    | _ => false
   | .builtin .append => match md with
    | .x _ => true
    | _ => false
   | _ => false
  | _ => false

def decN : Nat → Nat → List Nat
 | 0, _ => []
 | f + 1, n => match Nat.beq n 0 with
  | true => []
  | false => (n % 1000 - 1) :: decN f (n / 1000)

def Mds.perm : Mds → Nat → List Nat
 | [], _ => []
 | (r, i, _) :: l, r' => match Nat.beq r (r' + 2000000) with
  | true => i :: Mds.perm l r'
  | false => match Nat.beq r (r' + 6000000) with
   | true => decN 1000 i
   | false => Mds.perm l r'

def posOf : List Nat → Nat → Nat
 | [], _ => 0
 | a :: l, i => cond (Nat.beq a i) 0 (posOf l i + 1)

def renumE (q : List Nat) (e : Edge) : Edge := { e with on := posOf q e.on }
def renum (q : List Nat) (o : Oper) : Oper := { o with after := (o.after.toList.map (renumE q)).toArray, guard := o.guard.map fun g => (posOf q g.1, g.2) }
def permOps (q : List Nat) (ops : Array Oper) : Array Oper := (q.map fun i => renum q ((ops[i]?).getD noop)).toArray

def permOK (q : List Nat) (n : Nat) : Bool :=
 Nat.beq q.length n && (List.range n).all fun i => Nat.blt (posOf q i) n && Nat.blt (q.getD i 0) n && Nat.beq (posOf q (q.getD i 0)) i

def Mds.ren (q : List Nat) (rid : Nat) : Mds → Mds
 | [] => []
 | (r, i, m) :: l => match Nat.beq r rid with
  | true => (r, posOf q i, m) :: Mds.ren q rid l
  | false => Mds.ren q rid l

def Mds.splits : Mds → Nat → List Nat
 | [], _ => []
 | (r, i, _) :: l, r' => cond (Nat.beq r (r' + 3000000)) (i :: Mds.splits l r') (Mds.splits l r')

def addEL (a b : Nat) : Nat → List Oper → List Oper
 | _, [] => []
 | i, o :: r => cond (Nat.beq i a) { o with after := (⟨b, .data⟩ :: o.after.toList).toArray } o :: addEL a b (i + 1) r

def addE (ops : Array Oper) (a b : Nat) : Array Oper := (addEL a b 0 ops.toList).toArray

def splitF (F : Nat → Array Oper → Prop) : List Nat → Nat → List (Array Oper) → Prop
 | [], _, [] => True
 | [], _, _ :: _ => False
 | _ :: _, _, [] => False
 | i :: r, k, ops :: st => match Nat.beq i 0 with
  | true => F k ops ∧ splitF F r (k + 1) st
  | false => splitF F r k (addE ops (i / 1000) (i % 1000) :: addE ops (i % 1000) (i / 1000) :: st)

def splitOK (l : List Nat) (ops : Array Oper) : Bool :=
 l.all fun i => Nat.beq i 0 || (Nat.blt (i / 1000) ops.size && Nat.blt (i % 1000) ops.size && !Nat.beq (i / 1000) (i % 1000))

def awpD (tt : TT) (call : CallP) (md : Mds) (rid : Nat) (ops : Array Oper) : Nat → List Oper → List Nat → (St → Prop) → St → Prop
 | _, [], fl, K, s => match drawOK ops fl.reverse with
  | true => match has4 fl with
   | true => ∀ m, s.T.n ≤ m → K { s with T := ⟨m, s.T.l⟩ }
   | false => K s
  | false => False
 | i, o :: r, fl, K, s => match isBar (md.at rid i) o with
  | true => match tailOK ops i && drawOK ops fl.reverse with
   | true => match has4 fl with
    | true => ∀ m, s.T.n ≤ m → awpL tt call md rid ops i (o :: r) K { s with T := ⟨m, s.T.l⟩ }
    | false => awpL tt call md rid ops i (o :: r) K s
   | false => match isNd (md.at rid i) o && barGo i [] ops.toList && drawOK ops (List.reverse (7 :: fl)) with
    | true => aop tt call (md.at rid i) o s fun x s' => awpD tt call md rid ops (i + 1) r (7 :: fl) K (s'.put o.dst x)
    | false => False
  | false => guardK ops s o.guard
   (fun s => match Nat.beq (clsH tt (md.at rid i) o s) 3 with
    | false => aop tt call (md.at rid i) o s fun x s' => awpD tt call md rid ops (i + 1) r (clsH tt (md.at rid i) o s :: fl) K (s'.put o.dst x)
    | true => False)
   (fun s => awpD tt call md rid ops (i + 1) r (0 :: fl) K (s.put o.dst (.v (.tup []))))

def seqK (K : St → Prop) (Q : Exit → St → Prop) : Exit → St → Prop
 | .normal, s => K s
 | e, s => Q e s

def blockK (id : Nat) (Q : Exit → St → Prop) : Exit → St → Prop
 | .exit id', s => cond (Nat.beq id' id) (Q .normal s) (Q (.exit id') s)
 | e, s => Q e s

def V.nb0 : V → V
 | .tt => .bool true
 | .ff => .bool false
 | x => x

def V.nb : V → V
 | .agg l => .agg (l.map V.nb0)
 | x => x.nb0

def TV.nb : TV → TV
 | .v x => .v x.nb
 | x => x

def O.nb : Option O → Option O
 | some (.box x) => some (.box x.nb)
 | o => o

def maskL : List Bool → List TV → List TV
 | true :: m, x :: l => x.nb :: maskL m l
 | false :: m, _ :: l => .v .undef :: maskL m l
 | [], l => l.map fun _ => .v .undef
 | _, [] => []

def St.mask (m : List Bool × Nat) (s : St) : St := { s with tm := maskL m.1 s.tm, hp := (s.hp.take m.2).map O.nb }

def TV.clo0 (n : Nat) : TV → Bool
 | .v _ => true
 | .ifc _ => true
 | .ref _ _ _ _ | .sl _ _ | .mp _ _ _ => Nat.blt 0 n
 | .ptr i _ _ _ | .arr i _ _ _ | .mapr i | .iter i | .bsl i _ => Nat.blt i n
 | _ => false

def TV.clo1 (n : Nat) : TV → Bool
 | .clo _ l | .agg l | .tup l => l.all (TV.clo0 n)
 | x => x.clo0 n

def O.clo1 (n : Nat) : Option O → Bool
 | some (.box x) => x.clo1 n
 | _ => true

def St.clo (n : Nat) (s : St) : Bool := s.tm.all (TV.clo1 n) && s.hp.all (O.clo1 n)

def loopQ (m : List Bool × Nat) (k : St → Prop) (Q : Exit → St → Prop) : Exit → St → Prop
 | .normal, s => match (s.mask m).clo m.2 with
  | true => k (s.mask m)
  | false => False
 | e, s => Q e s


def Loops (body : (Exit → St → Prop) → St → Prop) (m : List Bool × Nat) (Q : Exit → St → Prop) (s : St) : Prop :=
 ∃ (I : Nat → St → Prop), (∃ n, I n s) ∧ ∀ n s, I n s → body (loopQ m (fun s' => ∃ n', n' < n ∧ I n' s') Q) s

def Unroll (body : (Exit → St → Prop) → St → Prop) (Q : Exit → St → Prop) : Nat → St → Prop
 | 0, _ => False
 | n + 1, s => body (fun e s' => match e with
  | .normal => Unroll body Q n s'
  | e => Q e s') s

def Mds.frz : Mds → Nat → Option Nat
 | [], _ => none
 | (r, i, _) :: l, id => match Nat.beq r (id + 4000000) with
  | true => some i
  | false => Mds.frz l id

def frzSl (i g : Nat) (c : Cd) (l : List c.T) : List TV → (List TV → Prop) → Prop
 | [], K => K []
 | x :: r, K => match x with
  | .arr j g' off len => match Nat.beq i j with
   | true => g' = g ∧ off + len ≤ l.length ∧ frzSl i g c l r fun r' => K (.v (.list c ((l.drop off).take len) .no) :: r')
   | false => frzSl i g c l r fun r' => K (.arr j g' off len :: r')
  | x => frzSl i g c l r fun r' => K (x :: r')

def freezeF (i : Nat) (s : St) (K : St → Prop) : Prop :=
 match s.hp.getD i none with
 | some (.arr g c l _) => frzSl i g c l s.tm fun tm => K ⟨tm, s.hp.set i none, s.T⟩
 | _ => False

def awp (tt : TT) (call : CallP) (md : Mds) (h0 : Nat) (msk : Nat → List Bool × Nat) (b : Nat) : Code → (Exit → St → Prop) → St → Prop
 | .skip, Q, s => Q .normal s
 | .label _, Q, s => Q .normal s
 | .seq x y, Q, s => awp tt call md h0 msk b x (seqK (awp tt call md h0 msk b y Q) Q) s
 | .cond c x y, Q, s => match s.ev tt 0 c with
  | .v .tt => awp tt call md h0 msk b x Q s
  | .v .ff => awp tt call md h0 msk b y Q s
  | .v (.bool t) => (t = true → awp tt call md h0 msk b x Q s) ∧ (t = false → awp tt call md h0 msk b y Q s)
  | _ => False
 | .block id c, Q, s => awp tt call md h0 msk id c (blockK id Q) s
 | .loop c, Q, s => match Nat.ble 1000000 (msk b).2 with
  | true => Unroll (awp tt call md h0 msk b c) Q ((msk b).2 - 1000000) s
  | false => match (s.mask ((msk b).1, h0 + (msk b).2)).clo (h0 + (msk b).2) with
   | true => Loops (awp tt call md h0 msk b c) ((msk b).1, h0 + (msk b).2) Q (s.mask ((msk b).1, h0 + (msk b).2))
   | false => False
 | .exit id, Q, s => Q (.exit id) s
 | .ret, Q, s => Q .ret s
 | .region id ops false, Q, s => match md.frz id with
  | none => awpL tt call md id ops 0 ops.toList (Q .normal) s
  | some i => freezeF i s fun s => awpL tt call md id ops 0 ops.toList (Q .normal) s
 | .region id ops true, Q, s => match md.anyZ id with
  | false => match md.splits id with
   | [] => match md.perm id with
    | [] => match noDm ops.toList with
     | true => awpD tt call md id ops 0 ops.toList [] (Q .normal) s
     | false => False
    | q => match permOK q ops.size && noDm (permOps q ops).toList with
     | true => awpD tt call (Mds.ren q id md) id (permOps q ops) 0 (permOps q ops).toList [] (Q .normal) s
     | false => False
   | l => match splitOK l ops with
    | true => splitF (fun k ops => match permOK (md.perm (id + 10000000 * (k + 1))) ops.size && noDm (permOps (md.perm (id + 10000000 * (k + 1))) ops).toList with
     | true => awpD tt call (Mds.ren (md.perm (id + 10000000 * (k + 1))) id md) id (permOps (md.perm (id + 10000000 * (k + 1))) ops) 0 (permOps (md.perm (id + 10000000 * (k + 1))) ops).toList [] (Q .normal) s
     | false => False) l 0 [ops]
    | false => False
  | true => match zOK md id ops with
   | true => zPre tt call md id 0 ops.toList (awpD tt call md id (blank md id ops) 0 (blank md id ops).toList [] (Q .normal)) s
   | false => False
 | _, _, _ => False

end Go.Proofs.YtdcljlafookliaaDoor.AB

namespace Go.Proofs.YtdcljlafookliaaDoor.AB
open Go

def tabG (b o : Nat) : Option Value :=
 if b = 0 then (if o < 256 then some (.int .u8 (Go.Lib.firstT o)) else none)
 else if b = 1 then (if o < 32 then some (.int .u8 (if o % 2 = 0 then Go.Lib.accLo (o / 2) else Go.Lib.accHi (o / 2))) else none)
 else none

end Go.Proofs.YtdcljlafookliaaDoor.AB

namespace Go.Proofs.YtdcljlafookliaaDoor.AB
open Go

structure Gh where
 cell : Nat → Nat → Option Value
 mp : Nat → Option (List (Value × Value))
 tok : Nat → Option (Option Nat × Nat × Nat)
 loc : Nat → Nat → Option (Option Nat × Nat × Nat)
 tab : ∀ b o v, tabG b o = some v → cell b o = some v

structure Mn where
 p : Nat → Prop
 cell : Nat → Nat → Option Value
 mp : Nat → Option (List (Value × Value))
 ds : List Deferred

instance : CoeFun Mn (fun _ => Nat → Prop) := ⟨Mn.p⟩

structure Fz (G G' : Gh) : Prop where
 cell : ∀ b o v, G.cell b o = some v → G'.cell b o = some v
 mp : ∀ r e, G.mp r = some e → G'.mp r = some e
 tok : ∀ n x, G.tok n = some x → G'.tok n = some x
 hole : ∀ t t' x, t < t' → G.tok t' = some x → G.tok t = none → G'.tok t = none

structure Fz0 (G G' : Gh) : Prop where
 cell : ∀ b o v, G.cell b o = some v → G'.cell b o = some v
 mp : ∀ r e, G.mp r = some e → G'.mp r = some e
 tok : ∀ n x, G.tok n = some x → G'.tok n = some x

theorem Fz.f0 {G G' : Gh} (h : Fz G G') : Fz0 G G' := ⟨h.cell, h.mp, h.tok⟩
theorem Fz0.refl (G : Gh) : Fz0 G G := ⟨fun _ _ _ h => h, fun _ _ h => h, fun _ _ h => h⟩
instance {G G' : Gh} : Coe (Fz G G') (Fz0 G G') := ⟨Fz.f0⟩

def Lc (n : Nat) (G G' : Gh) : Prop := ∀ i, i < n → ∀ g x, G.loc i g = some x → G'.loc i g = some x

theorem Fz.refl (G : Gh) : Fz G G := ⟨fun _ _ _ h => h, fun _ _ h => h, fun _ _ h => h, fun _ _ _ _ _ h => h⟩
theorem Fz.trans {a b c : Gh} (h : Fz a b) (k : Fz b c) : Fz a c :=
 ⟨fun _ _ _ x => k.cell _ _ _ (h.cell _ _ _ x), fun _ _ x => k.mp _ _ (h.mp _ _ x), fun _ _ x => k.tok _ _ (h.tok _ _ x), fun t t' x hl hx hn => k.hole t t' x hl (h.tok _ _ hx) (h.hole t t' x hl hx hn)⟩
theorem Lc.refl (n : Nat) (G : Gh) : Lc n G G := fun _ _ _ _ h => h
theorem Lc.trans {n : Nat} {a b c : Gh} (h : Lc n a b) (k : Lc n b c) : Lc n a c := fun i hi g x hx => k i hi g x (h i hi g x hx)
theorem Lc.mono {n m : Nat} {a b : Gh} (h : Lc n a b) (hm : m ≤ n) : Lc m a b := fun i hi => h i (Nat.lt_of_lt_of_le hi hm)

def TokOK (G : Gh) (t : Tok) (a : Option Addr) (len cap sz : Nat) : Prop :=
 match t with
 | .no => True
 | .exact => cap = len
 | .tk n => ∃ bo, G.tok n = some (bo, len * sz, cap * sz) ∧ (match bo with
  | none => cap = len
  | some b => a = some ⟨b, 0, none⟩)

inductive VR (G : Gh) : V → Value → Prop where
 | undef (y : Value) : VR G .undef y
 | tt : VR G .tt (.bool true)
 | ff : VR G .ff (.bool false)
 | int (k : IntKind) (n : Int) : VR G (.int k n) (.int k n)
 | bool (b : Bool) : VR G (.bool b) (.bool b)
 | str (l : List UInt8) : VR G (.str l) (.string ⟨l.toArray⟩)
 | agg (l : List V) (vs : List Value) (hl : l.length = vs.length) (ho : ∀ y ∈ vs, y.oneCell' = true)
   (h : ∀ (i : Nat) x y, l[i]? = some x → vs[i]? = some y → VR G x y) : VR G (.agg l) (.agg vs.toArray)
 | tup (l : List V) (vs : List Value) (hl : l.length = vs.length)
   (h : ∀ (i : Nat) x y, l[i]? = some x → vs[i]? = some y → VR G x y) : VR G (.tup l) (.tuple vs.toArray)
 | list (c : Cd) (l : List c.T) (t : Tok) (a : Option Addr) (cap b o : Nat) (vals : Nat → Value)
   (ha : l ≠ [] → a = some ⟨b, o, none⟩) (hcap : l.length ≤ cap)
   (hc : ∀ (i : Nat) x, (l.flatMap c.cells)[i]? = some x → G.cell b (o + i) = some (vals i))
   (ho : ∀ (i : Nat) x, (l.flatMap c.cells)[i]? = some x → (vals i).oneCell' = true)
   (hv : ∀ (i : Nat) x, (l.flatMap c.cells)[i]? = some x → VR G x (vals i))
   (ht : TokOK G t a l.length cap c.sz) : VR G (.list c l t) (.slice a l.length cap)
 | fptr (x : V) (f b o : Nat) (vals : Nat → Value)
   (hc : ∀ (i : Nat) y, x.cells[i]? = some y → G.cell b (o + i) = some (vals i))
   (ho : ∀ (i : Nat) y, x.cells[i]? = some y → (vals i).oneCell' = true)
   (hv : ∀ (i : Nat) y, x.cells[i]? = some y → VR G y (vals i)) : VR G (.fptr x f) (.pointer (some ⟨b, o + f, none⟩))
 | fmap (kc vc : Cd) (es : List (kc.T × vc.T)) (r : Nat) (ents : List (Value × Value)) (hm : G.mp r = some ents) (hl : es.length = ents.length)
   (hk : ∀ (i : Nat) e e', es[i]? = some e → ents[i]? = some e' → VR G (kc.enc e.1) e'.1)
   (hv : ∀ (i : Nat) e e', es[i]? = some e → ents[i]? = some e' → VR G (vc.enc e.2) e'.2) : VR G (.fmap kc vc es) (.map (some r))
 | fn (f : FuncId) : VR G (.fn f) (.func (.func f) #[] #[])
 | iface (t : TypeId) (x : V) (y : Value) (h : VR G x y) : VR G (.iface t x) (.iface t y)
 | nils : VR G .nils (.slice none 0 0)
 | nilp : VR G .nilp (.pointer none)
 | nilm : VR G .nilm (.map none)
 | nilf : VR G .nilf .nilFunc
 | nili : VR G .nili .nilIface

theorem TokOK.mono {G G' : Gh} (hf : Fz0 G G') {t : Tok} {a : Option Addr} {n c s : Nat} (h : TokOK G t a n c s) : TokOK G' t a n c s := by
 cases t with
 | no => trivial
 | exact => exact h
 | tk k => obtain ⟨bo, h1, h2⟩ := h; exact ⟨bo, hf.tok _ _ h1, h2⟩

theorem VR.mono {G G' : Gh} (hf : Fz0 G G') {x : V} {y : Value} (h : VR G x y) : VR G' x y := by
 induction h with
 | undef y => exact .undef y
 | tt => exact .tt
 | ff => exact .ff
 | int k n => exact .int k n
 | bool b => exact .bool b
 | str l => exact .str l
 | agg l vs hl ho h ih => exact .agg l vs hl ho ih
 | tup l vs hl h ih => exact .tup l vs hl ih
 | list c l t a cap b o vals ha hcap hc ho hv ht ih => exact .list c l t a cap b o vals ha hcap (fun i x hx => hf.cell _ _ _ (hc i x hx)) ho ih (ht.mono hf)
 | fptr x f b o vals hc ho hv ih => exact .fptr x f b o vals (fun i x hx => hf.cell _ _ _ (hc i x hx)) ho ih
 | fmap kc vc es r ents hm hl hk hv ihk ihv => exact .fmap kc vc es r ents (hf.mp _ _ hm) hl ihk ihv
 | fn f => exact .fn f
 | iface t x y h ih => exact .iface t x y ih
 | nils => exact .nils
 | nilp => exact .nilp
 | nilm => exact .nilm
 | nilf => exact .nilf
 | nili => exact .nili

inductive TR (G : Gh) : TV → Value → Prop where
 | v (x : V) (y : Value) (h : VR G x y) : TR G (.v x) y
 | ref0 (c : Xd) (e : Nat) (p : List Stp1) : TR G (.ref none c e p) (.pointer none)
 | ref (h : Nat) (c : Xd) (e : Nat) (p : List Stp1) (b ct : Nat) (hl : G.loc 0 h = some (some b, c.sz, ct)) (hp : c.okp p) :
   TR G (.ref (some h) c e p) (.pointer (some ⟨b, e * c.sz + c.off p, none⟩))
 | sl0 (c : Xd) (a : Option Addr) : TR G (.sl c none) (.slice a 0 0)
 | sl (s : SlH) (c : Xd) (b ct o : Nat) (hl : G.loc 0 s.h = some (some b, c.sz, ct)) (h1 : s.len ≤ s.cap) (h2 : s.off + s.cap ≤ ct)
   (ho : 0 < s.cap → o = s.off * c.sz) : TR G (.sl c (some s)) (.slice (some ⟨b, o, none⟩) s.len s.cap)
 | mp0 (kc : Cd) (vc : Xd) : TR G (.mp kc vc none) (.map none)
 | mp (h : Nat) (kc : Cd) (vc : Xd) (b sz ct : Nat) (hl : G.loc 0 h = some (some b, sz, ct)) : TR G (.mp kc vc (some h)) (.map (some b))
 | ptr (i g e f b sz ct : Nat) (h : G.loc i g = some (some b, sz, ct)) : TR G (.ptr i g e f) (.pointer (some ⟨b, e * sz + f, none⟩))
 | arr (i g off len b sz ct cap o : Nat) (h : G.loc i g = some (some b, sz, ct)) (hl : len ≤ cap) (hc : off + cap ≤ ct) (ho : 0 < cap → o = off * sz) :
   TR G (.arr i g off len) (.slice (some ⟨b, o, none⟩) len cap)
 | arrNil (i g sz ct : Nat) (h : G.loc i g = some (none, sz, ct)) : TR G (.arr i g 0 0) (.slice none 0 0)
 | mapr (i b sz ct : Nat) (h : G.loc i 0 = some (some b, sz, ct)) : TR G (.mapr i) (.map (some b))
 | iter (i b sz ct : Nat) (h : G.loc i 0 = some (some b, sz, ct)) : TR G (.iter i) (.pointer (some ⟨b, 0, none⟩))
 | bsl (i n b sz ct : Nat) (h : G.loc i 0 = some (some b, sz, ct)) : TR G (.bsl i n) (.slice (some ⟨b, 0, none⟩) n n)
 | ifc0 : TR G (.ifc none) .nilIface
 | ifc (t : Nat) (x : CV) (y : Value) (h : VR G (x.1.enc x.2) y) : TR G (.ifc (some (t, x))) (.iface t y)
 | clo (f : FuncId) (l : List TV) (vs : List Value) (hl : l.length = vs.length)
   (h : ∀ (i : Nat) x y, l[i]? = some x → vs[i]? = some y → TR G x y) : TR G (.clo f l) (.func (.func f) #[] vs.toArray)
 | agg (l : List TV) (vs : List Value) (hl : l.length = vs.length) (ho : ∀ y ∈ vs, y.oneCell' = true)
   (h : ∀ (i : Nat) x y, l[i]? = some x → vs[i]? = some y → TR G x y) : TR G (.agg l) (.agg vs.toArray)
 | tup (l : List TV) (vs : List Value) (hl : l.length = vs.length)
   (h : ∀ (i : Nat) x y, l[i]? = some x → vs[i]? = some y → TR G x y) : TR G (.tup l) (.tuple vs.toArray)

def Lb (n : Nat) (G : Gh) : Prop := ∀ i g, n ≤ i → G.loc i g = none

theorem Lb.lt {n : Nat} {G : Gh} (h : Lb n G) {i g : Nat} {x} (hx : G.loc i g = some x) : i < n := by
 rcases Nat.lt_or_ge i n with h' | h'
 ·exact h'
 ·rw [h i g h'] at hx; cases hx

theorem TR.mono {n : Nat} {G G' : Gh} (hb : Lb n G) (hf : Fz0 G G') (hl : Lc n G G') {x : TV} {y : Value} (h : TR G x y) : TR G' x y := by
 have L : ∀ {i g : Nat} {x}, G.loc i g = some x → G'.loc i g = some x := fun hx => hl _ (hb.lt hx) _ _ hx
 induction h with
 | v x y h => exact .v x y (h.mono hf)
 | ref0 c e p => exact .ref0 c e p
 | ref h c e p b ct hl hp => exact .ref h c e p b ct (L hl) hp
 | sl0 c a => exact .sl0 c a
 | sl s c b ct o hl h1 h2 ho => exact .sl s c b ct o (L hl) h1 h2 ho
 | mp0 kc vc => exact .mp0 kc vc
 | mp h kc vc b sz ct hl => exact .mp h kc vc b sz ct (L hl)
 | ptr i g e f b sz ct h => exact .ptr i g e f b sz ct (L h)
 | arr i g off len b sz ct cap o h h1 h2 h3 => exact .arr i g off len b sz ct cap o (L h) h1 h2 h3
 | arrNil i g sz ct h => exact .arrNil i g sz ct (L h)
 | mapr i b sz ct h => exact .mapr i b sz ct (L h)
 | iter i b sz ct h => exact .iter i b sz ct (L h)
 | bsl i n b sz ct h => exact .bsl i n b sz ct (L h)
 | ifc0 => exact .ifc0
 | ifc t x y h => exact .ifc t x y (h.mono hf)
 | clo f l vs hl h ih => exact .clo f l vs hl ih
 | agg l vs hl ho h ih => exact .agg l vs hl ho ih
 | tup l vs hl h ih => exact .tup l vs hl ih

def O.gen : O → Nat
 | .heap X => X.n
 | .arr g _ _ _ => g
 | _ => 0

def O.has : O → Nat → Prop
 | .heap X, g => X.f g ≠ none
 | .arr g' _ _ _, g => g = g'
 | _, g => g = 0

def Owns (G : Gh) (i : Nat) (o : O) (b : Nat) : Prop := ∃ g sz ct, o.has g ∧ G.loc i g = some (some b, sz, ct)

def Gh.priv (G : Gh) (b : Nat) : Prop := (∀ o, G.cell b o = none) ∧ G.mp b = none

def XR (Mine : Mn) (G : Gh) (w : World) (h : Nat) : XO → Prop
 | .arr c l => ∃ b, G.loc 0 h = some (some b, c.sz, l.length) ∧ Mine b ∧ G.priv b ∧ ∃ cur el, w.heap[b]? = some (.cells cur el (0, 0)) ∧
   cur.size = l.length * c.sz ∧ ∀ (e : Nat) x, l[e]? = some x → ∀ (j : Nat) y, (c.cells x)[j]? = some y → ∃ u, cur[e * c.sz + j]? = some u ∧ TR G y u ∧ u.oneCell' = true
 | .map kc vc es => ∃ b sz ct, G.loc 0 h = some (some b, sz, ct) ∧ Mine b ∧ G.priv b ∧ ∃ (ents : Array MapEntry) (ck : Nat), w.heap[b]? = some (.map ents ck) ∧
   es.length = ents.size ∧ (∀ (j : Nat) e m, es[j]? = some e → ents[j]? = some m → VR G (kc.enc e.1) m.key ∧ TR G (vc.enc e.2) m.val) ∧ MapKept.Stamped ents ck

def OR (Mine : Mn) (G : Gh) (w : World) (i : Nat) : O → Prop
 | .heap X => i = 0 ∧ (∀ h, X.n ≤ h → X.f h = none ∧ G.loc 0 h = none) ∧ (∀ h o, X.f h = some o → XR Mine G w h o) ∧
   ∀ h h' b sz ct sz' ct', h ≠ h' → X.f h ≠ none → X.f h' ≠ none → G.loc 0 h = some (some b, sz, ct) → G.loc 0 h' = some (some b, sz', ct') → False
 | .box x => ∃ b sz ct, G.loc i 0 = some (some b, sz, ct) ∧ Mine b ∧ G.priv b ∧ ∃ cur el, w.heap[b]? = some (.cells cur el (0, 0)) ∧
   x.cells.length = cur.size ∧ ∀ (j : Nat) y u, x.cells[j]? = some y → cur[j]? = some u → TR G y u ∧ u.oneCell' = true
 | .arr g c l ts => ∃ bo ct, G.loc i g = some (bo, c.sz, ct) ∧ l.length ≤ ct ∧ match bo with
   | none => l = []
   | some b => Mine b ∧ G.priv b ∧ ∃ cur el, w.heap[b]? = some (.cells cur el (0, 0)) ∧ cur.size = ct * c.sz ∧
    ∀ (e : Nat) x, l[e]? = some x → ∀ (j : Nat) y, (c.encT x (ts e)).cells[j]? = some y → ∃ u, cur[e * c.sz + j]? = some u ∧ VR G y u ∧ u.oneCell' = true
 | .map kc vc es => ∃ b sz ct, G.loc i 0 = some (some b, sz, ct) ∧ Mine b ∧ G.priv b ∧ ∃ (ents : Array MapEntry) (ck : Nat), w.heap[b]? = some (.map ents ck) ∧
   es.length = ents.size ∧ ∀ (j : Nat) e m, es[j]? = some e → ents[j]? = some m → VR G (kc.enc e.1) m.key ∧ VR G (vc.encT e.2.1 e.2.2) m.val
 | .siter _ _ => False

structure Inv (Mine : Mn) (G : Gh) (hp : Hp) (T : Toks) (w : World) : Prop where
 cells : ∀ b o v, G.cell b o = some v → w.cell? ⟨b, o, none⟩ = some v
 mps : ∀ r es, G.mp r = some es → ∃ (ents : Array MapEntry) (ck : Nat), w.heap[r]? = some (.map ents ck) ∧ ents.toList.map (fun m => (m.key, m.val)) = es
 objs : ∀ i o, hp[i]? = some (some o) → OR Mine G w i o
 inj : ∀ i j o o' b, i ≠ j → hp[i]? = some (some o) → hp[j]? = some (some o') → Owns G i o b → Owns G j o' b → False
 toks : ∀ t ∈ T.l, ∃ bo e c, G.tok t = some (bo, e, c) ∧ ∀ b, bo = some b → Mine b ∧ (∃ cur el, w.heap[b]? = some (.cells cur el (0, 0)) ∧ e ≤ c ∧ c = cur.size) ∧
  (∀ o, e ≤ o → G.cell b o = none) ∧ G.mp b = none
 tobj : ∀ t ∈ T.l, ∀ i o b e c, G.tok t = some (some b, e, c) → hp[i]? = some (some o) → Owns G i o b → False
 tinj : ∀ t ∈ T.l, ∀ t' ∈ T.l, t ≠ t' → ∀ b e c e' c', G.tok t = some (some b, e, c) → G.tok t' = some (some b, e', c') → False
 lb : Lb hp.length G
 gens : ∀ i o g, hp[i]? = some (some o) → o.gen < g → G.loc i g = none
 tfin : ∀ n, T.n ≤ n → G.tok n = none
 mine : ∀ b, w.heap.size ≤ b → Mine b
 old : (∀ b o v, G.cell b o = some v → Mine b ∨ Mine.cell b o = some v) ∧ ∀ r e, G.mp r = some e → Mine r ∨ Mine.mp r = some e

structure Stp (Mine : Mn) (w w' : World) : Prop where
 os : w'.os = w.os
 tape : w'.tape = w.tape
 output : w'.output = w.output
 size : w.heap.size ≤ w'.heap.size
 block : ∀ k, ¬ Mine k → w'.heap[k]? = w.heap[k]?

theorem Stp.refl (M : Mn) (w : World) : Stp M w w := ⟨rfl, rfl, rfl, Nat.le_refl _, fun _ _ => rfl⟩
theorem Stp.trans {M : Mn} {a b c : World} (h : Stp M a b) (k : Stp M b c) : Stp M a c :=
 ⟨k.os.trans h.os, k.tape.trans h.tape, k.output.trans h.output, Nat.le_trans h.size k.size, fun i hi => (k.block i hi).trans (h.block i hi)⟩

structure Rel (Mine : Mn) (G : Gh) (s : St) (a : Act) (w : World) : Prop where
 len : s.tm.length = a.tmps.size
 tm : ∀ (t : Nat) x, s.tm[t]? = some x → TR G x (a.tmps.getD t undef)
 defers : a.defers = Mine.ds
 inv : Inv Mine G s.hp s.T w

def Res (Mine : Mn) (G : Gh) (s : St) (w : World) (r : Result Value) (K : TV → St → Prop) : Prop :=
 ∃ y w' G' x s', r = .ok y w' ∧ K x s' ∧ TR G' x y ∧ s'.tm = s.tm ∧ Inv Mine G' s'.hp s'.T w' ∧ Fz G G' ∧ Lc s.hp.length G G' ∧
  s.hp.length ≤ s'.hp.length ∧ Stp Mine w w'

theorem Res.same {Mine : Mn} {G : Gh} {s : St} {w : World} {r : Result Value} {K : TV → St → Prop} (hi : Inv Mine G s.hp s.T w)
  {y : Value} {x : TV} (hr : r = .ok y w) (hk : K x s) (ht : TR G x y) : Res Mine G s w r K :=
 ⟨y, w, G, x, s, hr, hk, ht, rfl, hi, .refl _, .refl _ _, Nat.le_refl _, .refl _ _⟩

end Go.Proofs.YtdcljlafookliaaDoor.AB

namespace Go.Proofs.YtdcljlafookliaaDoor.AB
open Go

def Gh.setLoc (G : Gh) (i g : Nat) (x : Option Nat × Nat × Nat) : Gh :=
 { G with loc := fun j h => if j = i ∧ h = g then some x else G.loc j h }

def Gh.addCells (G : Gh) (b : Nat) (f : Nat → Option Value) : Gh :=
 { G with
  cell := fun c o => if c = b then (G.cell c o).or (f o) else G.cell c o
  tab := fun c o v h => by
   split
   ·rw [G.tab c o v h]; rfl
   ·exact G.tab c o v h }

def Gh.setTok (G : Gh) (n : Nat) (x : Option Nat × Nat × Nat) : Gh :=
 { G with tok := fun m => if m = n then some x else G.tok m }

section
variable {Mine : Mn} {G G' : Gh} {hp : Hp} {T : Toks} {w w' : World}

theorem Inv.cell_lt (h : Inv Mine G hp T w) {b o v} (hc : G.cell b o = some v) : b < w.heap.size := by
 have := h.cells b o v hc
 unfold World.cell? at this
 simp only at this
 rcases Nat.lt_or_ge b w.heap.size with h' | h'
 ·exact h'
 ·rw [Array.getElem?_eq_none h'] at this; cases this

theorem heap_lt {b : Nat} {x : Obj} (h : w.heap[b]? = some x) : b < w.heap.size := (Array.getElem?_eq_some_iff.1 h).1

theorem Inv.mp_lt (h : Inv Mine G hp T w) {r e} (hc : G.mp r = some e) : r < w.heap.size := by
 obtain ⟨x, y, h1, _⟩ := h.mps r e hc
 exact heap_lt h1

theorem XR.blk {h : Nat} {o : XO} (k : XR Mine G w h o) {b sz ct} (hl : G.loc 0 h = some (some b, sz, ct)) : Mine b ∧ G.priv b ∧ b < w.heap.size := by
 cases o with
 | arr c l =>
  obtain ⟨b', h1, h2, h3, cur, el, h4, _⟩ := k
  rw [h1] at hl; cases hl; exact ⟨h2, h3, heap_lt h4⟩
 | map kc vc es =>
  obtain ⟨b', s, c, h1, h2, h3, ents, ck, h4, _⟩ := k
  rw [h1] at hl; cases hl; exact ⟨h2, h3, heap_lt h4⟩

theorem OR.blk {i : Nat} {o : O} (h : OR Mine G w i o) {b} (hl : Owns G i o b) : Mine b ∧ G.priv b ∧ b < w.heap.size := by
 obtain ⟨g, sz, ct, hg, hl⟩ := hl
 cases o with
 | heap X =>
  obtain ⟨rfl, h1, h2, h3⟩ := h
  cases ho : X.f g with
  | none => exact absurd ho hg
  | some o => exact (h2 g o ho).blk hl
 | box x =>
  obtain ⟨b', s, c, h1, h2, h3, cur, el, h4, _⟩ := h
  simp only [O.has] at hg; subst hg
  rw [h1] at hl; cases hl; exact ⟨h2, h3, heap_lt h4⟩
 | arr g c l ts =>
  obtain ⟨bo, c', h1, hle, h2⟩ := h
  simp only [O.has] at hg; subst hg
  rw [h1] at hl; cases hl
  obtain ⟨h2, h3, cur, el, h4, _⟩ := h2
  exact ⟨h2, h3, heap_lt h4⟩
 | map kc vc es =>
  obtain ⟨b', s, c, h1, h2, h3, ents, ck, h4, _⟩ := h
  simp only [O.has] at hg; subst hg
  rw [h1] at hl; cases hl; exact ⟨h2, h3, heap_lt h4⟩
 | siter s p => exact h.elim

theorem XR.keep {h : Nat} {o : XO} {n : Nat} (hb : Lb n G) (hf : Fz0 G G') (hl : Lc n G G') (k : XR Mine G w h o)
  (hw : ∀ b sz ct, G.loc 0 h = some (some b, sz, ct) → w'.heap[b]? = w.heap[b]? ∧ (G.priv b → G'.priv b)) : XR Mine G' w' h o := by
 have L : ∀ {i g : Nat} {x}, G.loc i g = some x → G'.loc i g = some x := fun hx => hl _ (hb.lt hx) _ _ hx
 cases o with
 | arr c l =>
  obtain ⟨b, h1, h2, h3, cur, el, h4, h5, h6⟩ := k
  obtain ⟨k1, k2⟩ := hw b _ _ h1
  refine ⟨b, L h1, h2, k2 h3, cur, el, by rw [k1]; exact h4, h5, fun e x hx j y hy => ?_⟩
  obtain ⟨u, q1, q2, q3⟩ := h6 e x hx j y hy
  exact ⟨u, q1, q2.mono hb hf hl, q3⟩
 | map kc vc es =>
  obtain ⟨b, s, c, h1, h2, h3, ents, ck, h4, h5, h6, h7⟩ := k
  obtain ⟨k1, k2⟩ := hw b s c h1
  exact ⟨b, s, c, L h1, h2, k2 h3, ents, ck, by rw [k1]; exact h4, h5, fun j e m he hm => ⟨(h6 j e m he hm).1.mono hf, (h6 j e m he hm).2.mono hb hf hl⟩, h7⟩

theorem OR.keep {i : Nat} {o : O} {n : Nat} (hb : Lb n G) (hf : Fz0 G G') (hl : Lc n G G') (h : OR Mine G w i o)
  (hw : ∀ b, Owns G i o b → w'.heap[b]? = w.heap[b]? ∧ (G.priv b → G'.priv b)) (hX : ∀ X, o = .heap X → ∀ g, X.n ≤ g → G'.loc i g = G.loc i g := by intros; rfl) : OR Mine G' w' i o := by
 have L : ∀ {i g : Nat} {x}, G.loc i g = some x → G'.loc i g = some x := fun hx => hl _ (hb.lt hx) _ _ hx
 have hw : ∀ b g sz ct, o.has g → G.loc i g = some (some b, sz, ct) → w'.heap[b]? = w.heap[b]? ∧ (G.priv b → G'.priv b) := fun b g sz ct h1 h2 => hw b ⟨g, sz, ct, h1, h2⟩
 cases o with
 | heap X =>
  obtain ⟨rfl, h1, h2, h3⟩ := h
  refine ⟨rfl, fun h hh => ⟨(h1 h hh).1, by rw [hX X rfl h hh]; exact (h1 h hh).2⟩, fun h o ho => (h2 h o ho).keep hb hf hl fun b sz ct hl' => hw b h sz ct (by simp [O.has, ho]) hl', ?_⟩
  intro h h' b sz ct sz' ct' hne n1 n2 l1 l2
  cases ho : X.f h with
  | none => exact n1 ho
  | some o =>
   cases ho' : X.f h' with
   | none => exact n2 ho'
   | some o' =>
    have e1 : G'.loc 0 h = G.loc 0 h := by
     cases o with
     | arr c l => obtain ⟨b, q, _⟩ := h2 h _ ho; rw [q, L q]
     | map kc vc es => obtain ⟨b, s, c, q, _⟩ := h2 h _ ho; rw [q, L q]
    have e2 : G'.loc 0 h' = G.loc 0 h' := by
     cases o' with
     | arr c l => obtain ⟨b, q, _⟩ := h2 h' _ ho'; rw [q, L q]
     | map kc vc es => obtain ⟨b, s, c, q, _⟩ := h2 h' _ ho'; rw [q, L q]
    rw [e1] at l1; rw [e2] at l2
    exact h3 h h' b sz ct sz' ct' hne n1 n2 l1 l2
 | box x =>
  obtain ⟨b, s, c, h1, h2, h3, cur, el, h4, h5, h6⟩ := h
  obtain ⟨k1, k2⟩ := hw b 0 s c rfl h1
  exact ⟨b, s, c, L h1, h2, k2 h3, cur, el, by rw [k1]; exact h4, h5, fun j y u hy hu => ⟨(h6 j y u hy hu).1.mono hb hf hl, (h6 j y u hy hu).2⟩⟩
 | arr g c l ts =>
  obtain ⟨bo, ct, h1, hle, h2⟩ := h
  refine ⟨bo, ct, L h1, hle, ?_⟩
  cases bo with
  | none => exact h2
  | some b =>
   obtain ⟨k1, k2⟩ := hw b g c.sz ct rfl h1
   obtain ⟨h2, h3, cur, el, h4, h5, h6⟩ := h2
   refine ⟨h2, k2 h3, cur, el, by rw [k1]; exact h4, h5, fun e x hx j y hy => ?_⟩
   obtain ⟨u, q1, q2, q3⟩ := h6 e x hx j y hy
   exact ⟨u, q1, q2.mono hf, q3⟩
 | map kc vc es =>
  obtain ⟨b, s, c, h1, h2, h3, ents, ck, h4, h5, h6⟩ := h
  obtain ⟨k1, k2⟩ := hw b 0 s c rfl h1
  exact ⟨b, s, c, L h1, h2, k2 h3, ents, ck, by rw [k1]; exact h4, h5, fun j e m he hm => ⟨(h6 j e m he hm).1.mono hf, (h6 j e m he hm).2.mono hf⟩⟩
 | siter s p => exact h.elim

theorem heap_alloc_lt (w : World) (o : Obj) {k : Nat} (h : k < w.heap.size) : (w.alloc o).heap[k]? = w.heap[k]? := by
 show (w.heap.push o)[k]? = _
 rw [Array.getElem?_push, if_neg (by omega)]

theorem cell_of_heap {a : Addr} (h : w'.heap[a.block]? = w.heap[a.block]?) : w'.cell? a = w.cell? a := World.cell?_of_block h

theorem Inv.heap (h : Inv Mine G hp T w) (hw : w'.heap = w.heap) : Inv Mine G hp T w' := by
 refine ⟨?_, ?_, ?_, h.inj, ?_, h.tobj, h.tinj, h.lb, h.gens, h.tfin, ?_, h.old⟩
 ·intro b o v hc; have := h.cells b o v hc; unfold World.cell? at *; rw [hw]; exact this
 ·intro r es hr; rw [hw]; exact h.mps r es hr
 ·intro i o hi; exact (h.objs i o hi).keep h.lb (.refl _) (.refl _ _) (fun b _ => ⟨by rw [hw], id⟩)
 ·intro t ht; rw [hw]; exact h.toks t ht
 ·intro b hb; rw [hw] at hb; exact h.mine b hb

theorem Inv.addObj (h : Inv Mine G hp T w) (ob : Obj) (o : O) (sz ct : Nat) (hno : ∀ g, o.has g ↔ g = o.gen)
  (ho : OR Mine (G.setLoc hp.length o.gen (some w.heap.size, sz, ct)) (w.alloc ob) hp.length o) :
  Inv Mine (G.setLoc hp.length o.gen (some w.heap.size, sz, ct)) (hp ++ [some o]) T (w.alloc ob) ∧
  Fz G (G.setLoc hp.length o.gen (some w.heap.size, sz, ct)) ∧ Lc hp.length G (G.setLoc hp.length o.gen (some w.heap.size, sz, ct)) ∧ Stp Mine w (w.alloc ob) := by
 have hf : Fz G (G.setLoc hp.length o.gen (some w.heap.size, sz, ct)) := ⟨fun _ _ _ x => x, fun _ _ x => x, fun _ _ x => x, fun _ _ _ _ _ x => x⟩
 have hl : Lc hp.length G (G.setLoc hp.length o.gen (some w.heap.size, sz, ct)) := by
  intro i hi g x hx
  simp only [Gh.setLoc]
  rw [if_neg (by omega)]; exact hx
 have hlo : ∀ i g, i < hp.length → (G.setLoc hp.length o.gen (some w.heap.size, sz, ct)).loc i g = G.loc i g := by
  intro i g hi; simp only [Gh.setLoc]; rw [if_neg (by omega)]
 have hlo' : ∀ i o' b, i < hp.length → Owns (G.setLoc hp.length o.gen (some w.heap.size, sz, ct)) i o' b → Owns G i o' b := by
  rintro i o' b hi ⟨g, s, c, h1, h2⟩
  exact ⟨g, s, c, h1, by rw [hlo _ _ hi] at h2; exact h2⟩
 have hown : ∀ b, Owns (G.setLoc hp.length o.gen (some w.heap.size, sz, ct)) hp.length o b → b = w.heap.size := by
  rintro b ⟨g, s, c, h1, h2⟩
  rw [(hno g).1 h1] at h2
  simp only [Gh.setLoc, and_self, if_true] at h2
  cases h2; rfl
 have hnew : ∀ i o', (hp ++ [some o])[i]? = some (some o') → (i < hp.length ∧ hp[i]? = some (some o')) ∨ (i = hp.length ∧ o' = o) := by
  intro i o' hi
  rw [List.getElem?_append] at hi
  split at hi
  ·exact .inl ⟨by assumption, hi⟩
  ·have : i = hp.length := by
    rcases Nat.lt_or_ge (i - hp.length) 1 with h' | h'
    ·omega
    ·rw [List.getElem?_eq_none (by simpa using h')] at hi; cases hi
   subst this
   simp at hi
   exact .inr ⟨rfl, hi.symm⟩
 refine ⟨⟨?_, ?_, ?_, ?_, ?_, ?_, ?_, ?_, ?_, h.tfin, ?_, h.old⟩, hf, hl, ?_⟩
 ·intro b o v hc
  rw [cell_of_heap (w := w) (by exact heap_alloc_lt w ob (h.cell_lt hc))]
  exact h.cells b o v hc
 ·intro r es hr
  rw [heap_alloc_lt w ob (h.mp_lt hr)]
  exact h.mps r es hr
 ·intro i o' hi
  rcases hnew i o' hi with ⟨h1, h2⟩ | ⟨rfl, rfl⟩
  ·exact (h.objs i o' h2).keep h.lb hf hl (fun b hb => ⟨heap_alloc_lt w ob ((h.objs i o' h2).blk hb).2.2, id⟩) (fun _ _ g _ => hlo i g h1)
  ·exact ho
 ·intro i j oi oj b hij hi hj li lj
  rcases hnew i oi hi with ⟨h1, h2⟩ | ⟨rfl, rfl⟩
  ·have li' := hlo' _ _ _ h1 li
   rcases hnew j oj hj with ⟨k1, k2⟩ | ⟨rfl, rfl⟩
   ·exact h.inj i j oi oj b hij h2 k2 li' (hlo' _ _ _ k1 lj)
   ·have := ((h.objs i oi h2).blk li').2.2
    have := hown _ lj
    omega
  ·rcases hnew j oj hj with ⟨k1, k2⟩ | ⟨rfl, rfl⟩
   ·have := ((h.objs j oj k2).blk (hlo' _ _ _ k1 lj)).2.2
    have := hown _ li
    omega
   ·exact hij rfl
 ·intro t ht
  obtain ⟨bo, e, c, h1, h2⟩ := h.toks t ht
  refine ⟨bo, e, c, h1, fun b hb => ?_⟩
  obtain ⟨k1, ⟨cur, el, k2, k3⟩, k4⟩ := h2 b hb
  exact ⟨k1, ⟨cur, el, by rw [heap_alloc_lt w ob (heap_lt k2)]; exact k2, k3⟩, k4⟩
 ·intro t ht i o' b e c h1 hi hl'
  rcases hnew i o' hi with ⟨k1, k2⟩ | ⟨rfl, rfl⟩
  ·exact h.tobj t ht i o' b e c h1 k2 (hlo' _ _ _ k1 hl')
  ·obtain ⟨bo, e', c'', q1, q2⟩ := h.toks t ht
   rw [show (G.setLoc _ _ _).tok t = G.tok t from rfl] at h1
   rw [h1] at q1; cases q1
   obtain ⟨_, ⟨cur, el, q3, _⟩, _⟩ := q2 b rfl
   have := heap_lt q3
   have := hown _ hl'
   omega
 ·exact h.tinj
 ·intro i g hi
  simp only [List.length_append, List.length_cons, List.length_nil] at hi
  simp only [Gh.setLoc]
  rw [if_neg (by omega)]; exact h.lb i g (by omega)
 ·intro i o' g hi hg
  rcases hnew i o' hi with ⟨k1, k2⟩ | ⟨rfl, rfl⟩
  ·rw [hlo _ _ k1]; exact h.gens i o' g k2 hg
  ·simp only [Gh.setLoc]
   rw [if_neg (by omega)]; exact h.lb _ g (Nat.le_refl _)
 ·intro b hb
  simp only [World.size_alloc] at hb
  exact h.mine b (by omega)
 ·exact ⟨rfl, rfl, rfl, by simp, fun k hk => heap_alloc_lt w ob (by rcases Nat.lt_or_ge k w.heap.size with q | q; exact q; exact absurd (h.mine k q) hk)⟩

theorem Inv.addFrozen (h : Inv Mine G hp T w) (cur : Array Value) (el : TypeId) (m : Nat × Nat) (f : Nat → Option Value)
  (hfr : ∀ o v, f o = some v → cur[o]? = some v) :
  Inv Mine (G.addCells w.heap.size f) hp T (w.alloc (.cells cur el m)) ∧ Fz G (G.addCells w.heap.size f) ∧ Lc hp.length G (G.addCells w.heap.size f) ∧
   Stp Mine w (w.alloc (.cells cur el m)) := by
 have hno : ∀ o, G.cell w.heap.size o = none := by
  intro o
  cases hc : G.cell w.heap.size o with
  | none => rfl
  | some v => have := h.cell_lt hc; omega
 have hf : Fz G (G.addCells w.heap.size f) := by
  refine ⟨fun b o v x => ?_, fun _ _ x => x, fun _ _ x => x, fun _ _ _ _ _ x => x⟩
  simp only [Gh.addCells]
  rw [if_neg (by have := h.cell_lt x; omega)]; exact x
 have hl : Lc hp.length G (G.addCells w.heap.size f) := fun i hi g x hx => hx
 have hpriv : ∀ b, b < w.heap.size → G.priv b → (G.addCells w.heap.size f).priv b := by
  intro b hb hp
  refine ⟨fun o => ?_, hp.2⟩
  simp only [Gh.addCells]; rw [if_neg (by omega)]; exact hp.1 o
 have hold : ∀ b o v, (G.addCells w.heap.size f).cell b o = some v → Mine b ∨ Mine.cell b o = some v := by
  intro b o v hc
  simp only [Gh.addCells] at hc
  split at hc
  ·subst_vars; exact .inl (h.mine _ (Nat.le_refl _))
  ·exact h.old.1 b o v hc
 refine ⟨⟨?_, ?_, ?_, h.inj, ?_, h.tobj, h.tinj, h.lb, h.gens, h.tfin, ?_, hold, h.old.2⟩, hf, hl, ?_⟩
 ·intro b o v hc
  simp only [Gh.addCells] at hc
  split at hc
  ·subst_vars
   rw [hno, Option.none_or] at hc
   have := hfr o v hc
   unfold World.cell?
   have hb : (w.alloc (.cells cur el m)).heap[w.heap.size]? = some (.cells cur el m) := by
    show (w.heap.push _)[w.heap.size]? = _
    rw [Array.getElem?_push, if_pos rfl]
   simp only [hb]
   simpa using this
  ·rw [cell_of_heap (w := w) (by exact heap_alloc_lt w _ (h.cell_lt hc))]
   exact h.cells b o v hc
 ·intro r es hr
  rw [heap_alloc_lt w _ (h.mp_lt (r := r) (e := es) hr)]
  exact h.mps r es hr
 ·intro i o hi
  refine (h.objs i o hi).keep h.lb hf hl (fun b hb => ?_)
  have := ((h.objs i o hi).blk hb).2.2
  exact ⟨heap_alloc_lt w _ this, hpriv b this⟩
 ·intro t ht
  obtain ⟨bo, e, c, h1, h2⟩ := h.toks t ht
  refine ⟨bo, e, c, h1, fun b hb => ?_⟩
  obtain ⟨k1, ⟨cur', el', k2, k3⟩, k4, k5⟩ := h2 b hb
  have := heap_lt k2
  refine ⟨k1, ⟨cur', el', by rw [heap_alloc_lt w _ this]; exact k2, k3⟩, fun o ho => ?_, k5⟩
  simp only [Gh.addCells]; rw [if_neg (by omega)]; exact k4 o ho
 ·intro b hb
  simp only [World.size_alloc] at hb
  exact h.mine b (by omega)
 ·exact ⟨rfl, rfl, rfl, by simp, fun k hk => heap_alloc_lt w _ (by rcases Nat.lt_or_ge k w.heap.size with q | q; exact q; exact absurd (h.mine k q) hk)⟩

theorem Inv.setObj (h : Inv Mine G hp T w) (i : Nat) (o o' : O) (hi : hp[i]? = some (some o)) (hg : o'.gen = o.gen) (hh : ∀ g, o'.has g → o.has g) (b : Nat)
  (hb : Owns G i o b) (hs : Stp Mine w w') (hw : ∀ k, k ≠ b → w'.heap[k]? = w.heap[k]?) (ho : OR Mine G w' i o') :
  Inv Mine G (hp.set i (some o')) T w' := by
 have hil : i < hp.length := (List.getElem?_eq_some_iff.1 hi).1
 have hnew : ∀ j p, (hp.set i (some o'))[j]? = some (some p) → (j ≠ i ∧ hp[j]? = some (some p)) ∨ (j = i ∧ p = o') := by
  intro j p hj
  rw [List.getElem?_set] at hj
  split at hj
  ·rename_i e
   first
    | (rw [if_pos (by omega)] at hj; cases hj; exact .inr ⟨e.symm, rfl⟩)
    | (cases hj; exact .inr ⟨e.symm, rfl⟩)
  ·rename_i e
   exact .inl ⟨fun e' => e e'.symm, hj⟩
 obtain ⟨hbm, hbp, hbl⟩ := (h.objs i o hi).blk hb
 have hne : ∀ b' o v, G.cell b' o = some v → b' ≠ b := by
  intro b' o v hc e; subst e; rw [hbp.1 o] at hc; cases hc
 refine ⟨?_, ?_, ?_, ?_, ?_, ?_, h.tinj, by simpa using h.lb, ?_, h.tfin, ?_, h.old⟩
 ·intro b' o v hc
  rw [cell_of_heap (w := w) (by exact hw _ (hne _ _ _ hc))]
  exact h.cells b' o v hc
 ·intro r es hr
  rw [hw r (fun e => by subst e; rw [hbp.2] at hr; cases hr)]
  exact h.mps r es hr
 ·intro j p hj
  rcases hnew j p hj with ⟨h1, h2⟩ | ⟨rfl, rfl⟩
  ·refine (h.objs j p h2).keep h.lb (.refl _) (.refl _ _) (fun b' hb' => ⟨hw b' (fun e => ?_), id⟩)
   subst e
   exact h.inj i j o p b' (Ne.symm h1) hi h2 hb hb'
  ·exact ho
 ·intro j k oj ok b' hjk hj hk lj lk
  have hown : ∀ b', Owns G i o' b' → Owns G i o b' := fun b' ⟨g, s, c, h1, h2⟩ => ⟨g, s, c, hh g h1, h2⟩
  rcases hnew j oj hj with ⟨h1, h2⟩ | ⟨rfl, rfl⟩
  ·rcases hnew k ok hk with ⟨k1, k2⟩ | ⟨rfl, rfl⟩
   ·exact h.inj j k oj ok b' hjk h2 k2 lj lk
   ·exact h.inj j k oj o b' hjk h2 hi lj (hown _ lk)
  ·rcases hnew k ok hk with ⟨k1, k2⟩ | ⟨rfl, rfl⟩
   ·exact h.inj j k o ok b' hjk hi k2 (hown _ lj) lk
   ·exact hjk rfl
 ·intro t ht
  obtain ⟨bo, e, c, h1, h2⟩ := h.toks t ht
  refine ⟨bo, e, c, h1, fun b' hb' => ?_⟩
  obtain ⟨k1, ⟨cur', el', k2, k3⟩, k4⟩ := h2 b' hb'
  refine ⟨k1, ⟨cur', el', ?_, k3⟩, k4⟩
  rw [hw b' (fun e' => ?_)]; exact k2
  subst e'; subst hb'
  exact h.tobj t ht i o b' e c h1 hi hb
 ·intro t ht j p b' e c h1 hj hl'
  rcases hnew j p hj with ⟨k1, k2⟩ | ⟨rfl, rfl⟩
  ·exact h.tobj t ht j p b' e c h1 k2 hl'
  ·obtain ⟨g, s, c', q1, q2⟩ := hl'
   exact h.tobj t ht j o b' e c h1 hi ⟨g, s, c', hh g q1, q2⟩
 ·intro j p g hj hgt
  rcases hnew j p hj with ⟨k1, k2⟩ | ⟨rfl, rfl⟩
  ·exact h.gens j p g k2 hgt
  ·rw [hg] at hgt; exact h.gens j o g hi hgt
 ·intro b' hb'
  exact h.mine b' (Nat.le_trans hs.size hb')

end
end Go.Proofs.YtdcljlafookliaaDoor.AB

namespace Go.Proofs.YtdcljlafookliaaDoor.AB
open Go

def KOK (tt : TT) : TK → TypeDesc → Prop
 | .bool, d => d = .bool
 | .int k, d => d = .int k
 | .str, d => d = .string
 | .ptr e, d => d = .pointer e
 | .slice e, d => d = .slice e
 | .arr n e, d => d = .array n e ∧ (tt.at e).ok = true
 | .map k e, d => d = .map k e ∧ (tt.at k).ok = true ∧ (tt.at e).ok = true
 | .strct fs, d => ∃ fields, d = .struct fields ∧ fs.length = fields.size ∧ ∀ (i : Nat) off ft, fs[i]? = some (off, ft) → ∃ f, fields[i]? = some f ∧ f.offset = off ∧ f.type = ft ∧ (tt.at ft).ok = true
 | .iface, d => ∃ m, d = .interface m
 | .func, d => ∃ p r v, d = .func p r v
 | .other, d => (∀ f, d ≠ .struct f) ∧ (∀ n e, d ≠ .array n e)

def TK.isSl : TK → Bool
 | .slice _ => true
 | _ => false

def vrZ : V → Value → Bool
 | .int k n, .int k' n' => decide (k' = k) && decide (n' = n)
 | .ff, .bool b => !b
 | .bool b, .bool b' => b == b'
 | .str l, .string s => l.isEmpty && s.data.toList.isEmpty
 | .list _ l .exact, .slice none n c => l.isEmpty && Nat.beq n 0 && Nat.beq c 0
 | .nils, .slice none n c => Nat.beq n 0 && Nat.beq c 0
 | .nilp, .pointer none => true
 | .nilm, .map none => true
 | .nilf, .nilFunc => true
 | .nili, .nilIface => true
 | _, _ => false

theorem vrZ_spec {G : Gh} {x : V} {y : Value} (h : vrZ x y = true) : VR G x y := by
 unfold vrZ at h
 split at h
 ·simp only [Bool.and_eq_true, decide_eq_true_eq] at h
  obtain ⟨rfl, rfl⟩ := h
  exact .int _ _
 ·rename_i b
  cases b
  ·exact .ff
  ·cases h
 ·rename_i b b'
  have : b = b' := by simpa using h
  subst this; exact .bool _
 ·rename_i l s
  simp only [Bool.and_eq_true, List.isEmpty_iff] at h
  obtain ⟨rfl, h⟩ := h
  obtain ⟨⟨d⟩⟩ := s
  simp at h
  subst h
  exact .str []
 ·rename_i c l n cp
  simp only [Bool.and_eq_true, List.isEmpty_iff] at h
  obtain ⟨⟨rfl, hn⟩, hc⟩ := h
  rw [Nat.eq_of_beq_eq_true hn, Nat.eq_of_beq_eq_true hc]
  exact VR.list c [] .exact none 0 0 0 (fun _ => Go.undef) (fun h => absurd rfl h) (Nat.le_refl _) (fun i x hx => by simp at hx) (fun i x hx => by simp at hx) (fun i x hx => by simp at hx) rfl
 ·simp only [Bool.and_eq_true] at h
  rw [Nat.eq_of_beq_eq_true h.1, Nat.eq_of_beq_eq_true h.2]
  exact .nils
 ·exact .nilp
 ·exact .nilm
 ·exact .nilf
 ·exact .nili
 ·cases h

def vrZL : List V → List Value → Bool
 | [], [] => true
 | x :: l, y :: r => vrZ x y && y.oneCell' && vrZL l r
 | _, _ => false

theorem vrZL_spec {G : Gh} : ∀ {l : List V} {vs : List Value}, vrZL l vs = true → l.length = vs.length ∧ (∀ y ∈ vs, y.oneCell' = true) ∧ ∀ (i : Nat) x y, l[i]? = some x → vs[i]? = some y → VR G x y
 | [], [], _ => ⟨rfl, fun y hy => (by cases hy), fun i x y hx => by simp at hx⟩
 | [], _ :: _, h => by simp [vrZL] at h
 | _ :: _, [], h => by simp [vrZL] at h
 | x :: l, v :: vs, h => by
  simp only [vrZL, Bool.and_eq_true] at h
  obtain ⟨h1, h2, h3⟩ := vrZL_spec (G := G) h.2
  refine ⟨by simp [h1], fun y hy => ?_, fun i x' y hx hy => ?_⟩
  ·rcases List.mem_cons.1 hy with rfl | hy
   ·exact h.1.2
   ·exact h2 y hy
  ·cases i with
   | zero => simp at hx hy; subst hx hy; exact vrZ_spec h.1.1
   | succ i => exact h3 i x' y (by simpa using hx) (by simpa using hy)

def vrZT : V → Value → Bool
 | .agg l, .agg vs => vrZL l vs.toList
 | x, y => vrZ x y

theorem vrZT_spec {G : Gh} {x : V} {y : Value} (h : vrZT x y = true) : VR G x y := by
 unfold vrZT at h
 split at h
 ·rename_i l vs
  obtain ⟨h1, h2, h3⟩ := vrZL_spec (G := G) h
  exact .agg l vs.toList h1 h2 h3
 ·exact vrZ_spec h

structure TIOK (P : Program) (tt : TT) (t : Nat) (ti : TI) : Prop where
 und : ∃ d, P.underlying t = some d ∧ KOK tt ti.k d
 info : ∃ i z, P.info? t = some i ∧ i.zero = some z ∧ i.size = ti.size ∧ i.bytes = ti.bytes ∧ (∀ G, VR G ti.zero z) ∧ z.cells.size = ti.size ∧ ti.zero.cells.length = ti.size ∧
  z.cells.all (·.oneCell') = true
 cok : ti.cok = true → ti.code.sz = ti.size ∧ 0 < ti.size ∧ 0 < ti.bytes
 nil : ti.k.isSl = true → ∃ i, P.info? t = some i ∧ i.zero = some (.slice none 0 0)
 vz : ∃ i z, P.info? t = some i ∧ i.zero = some z ∧ vrZT ti.zero z = true

def TTOK (P : Program) (tt : TT) : Prop := ∀ t, (tt.at t).ok = true → TIOK P tt t (tt.at t)

section
variable {P : Program} {tt : TT} {Mine : Mn} {G : Gh} {s : St} {a : Act} {w : World}

theorem TR.undef (y : Value) : TR G (.v .undef) y := .v _ _ (.undef y)

theorem constR (tt : TT) (ty : Nat) (c : Value) : VR G (ofConst tt ty c) c := by
 unfold ofConst
 split
 ·exact .int _ _
 ·exact .tt
 ·exact .ff
 ·rename_i s
  exact .str s.data.toList
 ·split
  ·rename_i e h
   exact .list (tt.at e).code [] .exact none 0 0 0 (fun _ => .nilIface) (by simp) (by simp) (by simp) (by simp) (by simp) rfl
  ·exact .nils
 ·exact .nilp
 ·exact .nilm
 ·exact .nilf
 ·exact .nili
 ·exact .undef _

theorem Rel.ev (h : Rel Mine G s a w) (ty : Nat) (x : Operand) : TR G (s.ev tt ty x) (a.eval x) := by
 cases x with
 | tmp t =>
  simp only [St.ev, Act.eval]
  cases hx : s.tm[t]? with
  | none => simp only [List.getD, hx, Option.getD]; exact .undef _
  | some x => simp only [List.getD, hx, Option.getD_some]; exact h.tm t x hx
 | const c => exact .v _ _ (constR tt ty c)
 | global g => exact .undef _
 | func f => exact .v _ _ (.fn f)

theorem Rel.put {G' : Gh} {s' : St} {w' : World} (h : Rel Mine G s a w) {d : Option Nat} {x : TV} {y : Value} (hx : TR G' x y) (htm : s'.tm = s.tm)
  (hi : Inv Mine G' s'.hp s'.T w') (hf : Fz G G') (hl : Lc s.hp.length G G') : Rel Mine G' (s'.put d x) (a.put d y) w' := by
 cases d with
 | none =>
  refine ⟨by simp only [St.put, Act.put, htm]; exact h.len, fun t x hx => ?_, h.defers, hi⟩
  simp only [St.put, htm] at hx
  exact (h.tm t x hx).mono h.inv.lb hf hl
 | some d =>
  refine ⟨by simp [St.put, Act.put, htm, h.len], fun t z hz => ?_, h.defers, hi⟩
  simp only [St.put, htm, List.getElem?_set] at hz
  simp only [Act.put]
  by_cases hd : d = t
  ·subst hd
   simp only [if_true] at hz
   split at hz
   ·rename_i hlt
    cases hz
    have : d < a.tmps.size := by rw [← h.len]; exact hlt
    simpa [Array.getD_eq_getD_getElem?, Array.getElem?_setIfInBounds, this] using hx
   ·cases hz
  ·rw [if_neg hd] at hz
   have := (h.tm t z hz).mono h.inv.lb hf hl
   simpa [Array.getD_eq_getD_getElem?, Array.getElem?_setIfInBounds, hd] using this

theorem Inv.withT {T T' : Toks} {hp : Hp} (h : Inv Mine G hp T w) (hn : T.n ≤ T'.n) (hs : ∀ t ∈ T'.l, t ∈ T.l) : Inv Mine G hp T' w :=
 ⟨h.cells, h.mps, h.objs, h.inj, fun t ht => h.toks t (hs t ht), fun t ht => h.tobj t (hs t ht), fun t ht t' ht' => h.tinj t (hs t ht) t' (hs t' ht'),
  h.lb, h.gens, fun n hh => h.tfin n (Nat.le_trans hn hh), h.mine, h.old⟩

theorem KOK.notAgg {k : TK} {d : TypeDesc} (h : KOK tt k d) (ha : k.isAgg = false) : (∀ f, d ≠ .struct f) ∧ (∀ n e, d ≠ .array n e) := by
 cases k
 case other => exact h
 all_goals refine ⟨fun f e => ?_, fun n e' e => ?_⟩ <;> subst e <;> simp [KOK, TK.isAgg] at h ha

theorem run_isAgg (htt : TTOK P tt) {t : Nat} (hok : (tt.at t).ok = true) (w : World) : (isAgg t).run P w = .ok (tt.at t).k.isAgg w := by
 obtain ⟨d, hd, hk⟩ := (htt t hok).und
 simp only [isAgg, Sem.run_bind, run_underlying hd, Result.andThen_ok]
 cases ha : (tt.at t).k.isAgg with
 | false =>
  obtain ⟨h1, h2⟩ := hk.notAgg ha
  cases d <;> first | rfl | (exact absurd rfl (h1 _)) | (exact absurd rfl (h2 _ _))
 | true =>
  cases hkk : (tt.at t).k <;> rw [hkk] at ha hk <;> simp only [TK.isAgg] at ha <;> simp only [KOK] at hk
  ·cases ha
  ·cases ha
  ·cases ha
  ·cases ha
  ·cases ha
  ·obtain ⟨rfl, _⟩ := hk; rfl
  ·cases ha
  ·obtain ⟨f, rfl, _⟩ := hk; rfl
  ·cases ha
  ·cases ha
  ·cases ha

theorem run_sizeOf (htt : TTOK P tt) {t : Nat} (hok : (tt.at t).ok = true) (w : World) : (sizeOf t).run P w = .ok (tt.at t).size w := by
 obtain ⟨i, z, hi, _, hs, _⟩ := (htt t hok).info
 simp [sizeOf, typeInfo, hi, hs]

end
end Go.Proofs.YtdcljlafookliaaDoor.AB

namespace Go.Proofs.YtdcljlafookliaaDoor.AB
open Go

theorem addr_add (b o j : Nat) : (⟨b, o, none⟩ : Addr).add j = ⟨b, o + j, none⟩ := by
 unfold Addr.add
 split
 ·subst_vars; rfl
 ·rfl

section
variable {P : Program} {tt : TT} {Mine : Mn} {G : Gh} {s : St} {a : Act} {w : World}

theorem run_loadAt (htt : TTOK P tt) {t : Nat} (hok : (tt.at t).ok = true) (b o : Nat) (ys : List Value) (hn : ys.length = (tt.at t).size)
  (h1 : (tt.at t).k.isAgg = false → (tt.at t).size = 1) (hc : ∀ (j : Nat) y, ys[j]? = some y → w.cell? ⟨b, o + j, none⟩ = some y) :
  (Instr.loadAt t (.pointer (some ⟨b, o, none⟩))).run P w = .ok (if (tt.at t).k.isAgg then .agg ys.toArray else ys.getD 0 Go.undef) w := by
 have hl : ∀ (j : Nat) y, ys[j]? = some y → w.cell? ((⟨b, o, none⟩ : Addr).add j) = some y := by
  intro j y hy; rw [addr_add]; exact hc j y hy
 simp only [Instr.loadAt, Instr.sureAddr, Sem.run_bind, Sem.run_pure, Result.andThen_ok, loadVar, run_isAgg htt hok]
 cases ha : (tt.at t).k.isAgg with
 | true =>
  simp only [if_true, Sem.run_bind, run_sizeOf htt hok, Result.andThen_ok]
  rw [← hn, run_loadCells_list w _ ys hl]
  rfl
 | false =>
  have hs := h1 ha
  rw [hs] at hn
  match ys, hn with
  | [y], _ =>
   have := hc 0 y rfl
   simp only [Nat.add_zero] at this
   simp [this]

theorem allV_some {l : List TV} {vs : List V} (h : TV.allV l = some vs) : l = vs.map .v := by
 induction l generalizing vs with
 | nil => simp [TV.allV] at h; subst h; rfl
 | cons x r ih =>
  cases x with
  | v x =>
   simp only [TV.allV] at h
   split at h
   ·rename_i l' hl
    cases h
    rw [ih hl]; rfl
   ·cases h
  | _ => simp [TV.allV] at h

theorem TR.getV {l : List V} {vs : List Value} (h : ∀ (i : Nat) x y, (l.map TV.v)[i]? = some x → vs[i]? = some y → TR G x y) :
  ∀ (i : Nat) x y, l[i]? = some x → vs[i]? = some y → VR G x y := by
 intro i x y hx hy
 have := h i (.v x) y (by simp [hx]) hy
 cases this; assumption

theorem TR.mkAgg {l : List TV} {vs : List Value} (hl : l.length = vs.length) (ho : ∀ y ∈ vs, y.oneCell' = true)
  (h : ∀ (i : Nat) x y, l[i]? = some x → vs[i]? = some y → TR G x y) : TR G (TV.mkAgg l) (.agg vs.toArray) := by
 unfold TV.mkAgg
 split
 ·rename_i us hu
  have := allV_some hu
  subst this
  exact .v _ _ (.agg us vs (by simpa using hl) ho (TR.getV h))
 ·exact .agg l vs hl ho h

theorem TR.mkTup {l : List TV} {vs : List Value} (hl : l.length = vs.length)
  (h : ∀ (i : Nat) x y, l[i]? = some x → vs[i]? = some y → TR G x y) : TR G (TV.mkTup l) (.tuple vs.toArray) := by
 unfold TV.mkTup
 split
 ·rename_i us hu
  have := allV_some hu
  subst this
  exact .v _ _ (.tup us vs (by simpa using hl) (TR.getV h))
 ·exact .tup l vs hl h

theorem sub_V (htt : TTOK P tt) {t : Nat} (hok : (tt.at t).ok = true) {x y : V} {f b o : Nat} (us : Nat → Value)
  (hs : subV (tt.at t).k.isAgg (tt.at t).size f x = some y)
  (hc : ∀ (j : Nat) z, x.cells[j]? = some z → w.cell? ⟨b, o + j, none⟩ = some (us j) ∧ (us j).oneCell' = true ∧ VR G z (us j)) :
  ∃ v, (Instr.loadAt t (.pointer (some ⟨b, o + f, none⟩))).run P w = .ok v w ∧ VR G y v := by
 unfold subV at hs
 split at hs
 case h_2 => cases hs
 rename_i hle
 have hle : f + (tt.at t).size ≤ x.cells.length := Nat.le_of_ble_eq_true hle
 have hat : ∀ j, j < (tt.at t).size → ∃ z, x.cells[f + j]? = some z := fun j hj => ⟨_, List.getElem?_eq_getElem (by omega)⟩
 have hr := run_loadAt (w := w) htt hok b (o + f) ((List.range (tt.at t).size).map fun j => us (f + j)) (by simp) (fun ha => by
  rw [ha] at hs; dsimp only at hs; split at hs
  ·assumption
  ·cases hs) (fun j y hy => by
   simp only [List.getElem?_map] at hy
   cases hj : (List.range (tt.at t).size)[j]? with
   | none => rw [hj] at hy; cases hy
   | some k =>
    rw [hj] at hy
    simp only [Option.map_some] at hy
    cases hy
    have hjl : j < (tt.at t).size := by
     have := (List.getElem?_eq_some_iff.1 hj).1; simpa using this
    rw [List.getElem?_range hjl] at hj
    cases hj
    obtain ⟨z, hz⟩ := hat j hjl
    have := (hc (f + j) z hz).1
    rw [show o + f + j = o + (f + j) by omega]; exact this)
 refine ⟨_, hr, ?_⟩
 cases ha : (tt.at t).k.isAgg with
 | true =>
  rw [ha] at hs
  simp only [Option.some.injEq] at hs
  subst hs
  simp only [if_true]
  refine .agg _ _ (by simp; omega) ?_ ?_
  ·intro y hy
   simp only [List.mem_map, List.mem_range] at hy
   obtain ⟨j, hj, rfl⟩ := hy
   obtain ⟨z, hz⟩ := hat j hj
   exact (hc (f + j) z hz).2.1
  ·intro i p q hp hq
   simp only [List.getElem?_take, List.getElem?_drop] at hp
   split at hp
   ·rename_i hi
    simp only [List.getElem?_map, List.getElem?_range hi, Option.map_some] at hq
    cases hq
    exact (hc (f + i) p hp).2.2
   ·cases hp
 | false =>
  rw [ha] at hs
  simp only at hs
  split at hs
  ·rename_i h1
   cases hs
   simp only [Bool.false_eq_true, if_false]
   obtain ⟨z, hz⟩ := hat 0 (by omega)
   simp only [Nat.add_zero] at hz
   rw [h1]
   simp only [List.getD, hz, Option.getD_some]
   have := (hc f z hz).2.2
   simpa using this
  ·cases hs

theorem sub_TV (htt : TTOK P tt) {t : Nat} (hok : (tt.at t).ok = true) {x y : TV} {f b o : Nat} (us : Nat → Value)
  (hs : subTV (tt.at t).k.isAgg (tt.at t).size f x = some y)
  (hc : ∀ (j : Nat) z, x.cells[j]? = some z → w.cell? ⟨b, o + j, none⟩ = some (us j) ∧ (us j).oneCell' = true ∧ TR G z (us j)) :
  ∃ v, (Instr.loadAt t (.pointer (some ⟨b, o + f, none⟩))).run P w = .ok v w ∧ TR G y v := by
 unfold subTV at hs
 split at hs
 case h_2 => cases hs
 rename_i hle
 have hle : f + (tt.at t).size ≤ x.cells.length := Nat.le_of_ble_eq_true hle
 have hat : ∀ j, j < (tt.at t).size → ∃ z, x.cells[f + j]? = some z := fun j hj => ⟨_, List.getElem?_eq_getElem (by omega)⟩
 have hr := run_loadAt (w := w) htt hok b (o + f) ((List.range (tt.at t).size).map fun j => us (f + j)) (by simp) (fun ha => by
  rw [ha] at hs; dsimp only at hs; split at hs
  ·assumption
  ·cases hs) (fun j y hy => by
   simp only [List.getElem?_map] at hy
   cases hj : (List.range (tt.at t).size)[j]? with
   | none => rw [hj] at hy; cases hy
   | some k =>
    rw [hj] at hy
    simp only [Option.map_some] at hy
    cases hy
    have hjl : j < (tt.at t).size := by
     have := (List.getElem?_eq_some_iff.1 hj).1; simpa using this
    rw [List.getElem?_range hjl] at hj
    cases hj
    obtain ⟨z, hz⟩ := hat j hjl
    have := (hc (f + j) z hz).1
    rw [show o + f + j = o + (f + j) by omega]; exact this)
 refine ⟨_, hr, ?_⟩
 cases ha : (tt.at t).k.isAgg with
 | true =>
  rw [ha] at hs
  simp only [Option.some.injEq] at hs
  subst hs
  simp only [if_true]
  refine TR.mkAgg (by simp; omega) ?_ ?_
  ·intro y hy
   simp only [List.mem_map, List.mem_range] at hy
   obtain ⟨j, hj, rfl⟩ := hy
   obtain ⟨z, hz⟩ := hat j hj
   exact (hc (f + j) z hz).2.1
  ·intro i p q hp hq
   simp only [List.getElem?_take, List.getElem?_drop] at hp
   split at hp
   ·rename_i hi
    simp only [List.getElem?_map, List.getElem?_range hi, Option.map_some] at hq
    cases hq
    exact (hc (f + i) p hp).2.2
   ·cases hp
 | false =>
  rw [ha] at hs
  simp only at hs
  split at hs
  ·rename_i h1
   cases hs
   simp only [Bool.false_eq_true, if_false]
   obtain ⟨z, hz⟩ := hat 0 (by omega)
   simp only [Nat.add_zero] at hz
   rw [h1]
   simp only [List.getD, hz, Option.getD_some]
   have := (hc f z hz).2.2
   simpa using this
  ·cases hs

theorem cell_of_block {b o : Nat} {cur : Array Value} {el m} (h : w.heap[b]? = some (.cells cur el m)) : w.cell? ⟨b, o, none⟩ = cur[o]? := by
 simp [World.cell?, h]

theorem load_sound (htt : TTOK P tt) {t : Nat} (hok : (tt.at t).ok = true) {p : TV} {q : Value} {K : TV → St → Prop} (h : loadK tt t p s K)
  (hi : Inv Mine G s.hp s.T w) (hp : TR G p q) : Res Mine G s w ((Instr.loadAt t q).run P w) K := by
 unfold loadK at h
 split at h
 ·rename_i x f
  cases hp with
  | v _ _ hv =>
   cases hv with
   | fptr _ _ b o vals hc ho hv =>
    split at h
    ·rename_i y hy
     obtain ⟨v, h1, h2⟩ := sub_V (w := w) (G := G) htt hok vals hy (fun j z hz => ⟨hi.cells _ _ _ (hc j z hz), ho j z hz, hv j z hz⟩)
     exact Res.same hi h1 h (.v _ _ h2)
    ·exact h.elim
 ·rename_i i g e f
  cases hp with
  | ptr _ _ _ _ b sz ct hloc =>
   split at h
   ·rename_i x hx
    have hx' : s.hp[i]? = some (some (.box x)) := by
     simp only [List.getD] at hx
     cases hh : s.hp[i]? with
     | none => rw [hh] at hx; cases hx
     | some o => rw [hh] at hx; simp only [Option.getD_some] at hx; rw [hx]
    split at h
    ·split at h
     ·rename_i y hy
      obtain ⟨b', s', c', h1, h2, h3, cur, el, h4, h5, h6⟩ := hi.objs i _ hx'
      rw [hloc] at h1; cases h1
      obtain ⟨v, k1, k2⟩ := sub_TV (w := w) (G := G) (b := b) (o := 0) htt hok (fun j => cur.getD j Go.undef) hy (fun j z hz => by
       have hj : j < cur.size := by rw [← h5]; exact (List.getElem?_eq_some_iff.1 hz).1
       have hu : cur[j]? = some (cur.getD j Go.undef) := by simp [Array.getD, hj]
       obtain ⟨q1, q2⟩ := h6 j z _ hz hu
       exact ⟨by rw [cell_of_block h4, Nat.zero_add]; exact hu, q2, q1⟩)
      refine Res.same hi (y := v) ?_ h k2
      rw [Nat.zero_mul]; exact k1
     ·exact h.elim
    ·exact h.elim
   ·rename_i g' c l ts hx
    have hx' : s.hp[i]? = some (some (.arr g' c l ts)) := by
     simp only [List.getD] at hx
     cases hh : s.hp[i]? with
     | none => rw [hh] at hx; cases hx
     | some o => rw [hh] at hx; simp only [Option.getD_some] at hx; rw [hx]
    obtain ⟨rfl, he, h⟩ := h
    split at h
    ·rename_i y hy
     obtain ⟨bo, ct', h1, hle, h2⟩ := hi.objs i _ hx'
     rw [hloc] at h1; cases h1
     obtain ⟨h2, h3, cur, el, h4, h5, h6⟩ := h2
     have hel : l[e]? = some (l.getD e c.dflt) := by simp [List.getD, he]
     have hall := h6 e _ hel
     obtain ⟨v, k1, k2⟩ := sub_V (w := w) (G := G) (b := b) (o := e * c.sz) htt hok (fun j => cur.getD (e * c.sz + j) Go.undef) hy (fun j z hz => by
      obtain ⟨u, q1, q2, q3⟩ := hall j z hz
      have hu : cur.getD (e * c.sz + j) Go.undef = u := by simp [Array.getD_eq_getD_getElem?, q1]
      simp only [hu]
      exact ⟨by rw [cell_of_block h4]; exact q1, q3, q2⟩)
     exact Res.same hi k1 h (.v _ _ k2)
    ·exact h.elim
   ·exact h.elim
 ·exact h.elim

end
end Go.Proofs.YtdcljlafookliaaDoor.AB

namespace Go.Proofs.YtdcljlafookliaaDoor.AB
open Go

section
variable {P : Program} {tt : TT} {Mine : Mn} {G : Gh} {s : St} {a : Act} {w : World}

theorem VR.one {x : V} {y : Value} (h : VR G x y) (ho : x.one = true) : y.oneCell' = true := by
 cases h <;> first | rfl | (simp [V.one] at ho)

theorem TR.one {x : TV} {y : Value} (h : TR G x y) (ho : x.one = true) : y.oneCell' = true := by
 cases h <;> first | rfl | (simp [TV.one] at ho; done) | skip
 rename_i h; exact h.one ho

theorem VR.single {x : V} {y : Value} (h : VR G x y) (ho : x.one = true) : x.cells = [x] ∧ y.cells = #[y] := by
 cases h <;> first | (exact ⟨rfl, rfl⟩) | (simp [V.one] at ho)

theorem TR.cells {x : TV} {y : Value} (h : TR G x y) (ho : x.cells.all TV.one = true) :
  x.cells.length = y.cells.size ∧ ∀ (j : Nat) z u, x.cells[j]? = some z → y.cells[j]? = some u → TR G z u ∧ u.oneCell' = true := by
 have single : ∀ {x : TV} {y : Value}, TR G x y → x.cells = [x] → x.one = true → y.cells = #[y] →
   x.cells.length = y.cells.size ∧ ∀ (j : Nat) z u, x.cells[j]? = some z → y.cells[j]? = some u → TR G z u ∧ u.oneCell' = true := by
  intro x y h h1 h2 h3
  rw [h1, h3]
  refine ⟨rfl, fun j z u hz hu => ?_⟩
  match j with
  | 0 => simp at hz hu; subst hz hu; exact ⟨h, h.one h2⟩
  | j + 1 => simp at hz
 cases h with
 | v x y hv =>
  cases hv with
  | agg l vs hl hone hp =>
   refine ⟨by simp [TV.cells, V.cells, Value.cells, hl], fun j z u hz hu => ?_⟩
   simp only [TV.cells, V.cells, Value.cells, List.getElem?_map] at hz hu
   cases hlj : l[j]? with
   | none => rw [hlj] at hz; cases hz
   | some q =>
    rw [hlj] at hz; simp at hz; subst hz
    have hu' : vs[j]? = some u := by simpa using hu
    exact ⟨.v _ _ (hp j q u hlj hu'), hone u (List.mem_of_getElem? hu')⟩
  | undef => simp [TV.cells, V.cells, TV.one, V.one] at ho
  | tup => simp [TV.cells, V.cells, TV.one, V.one] at ho
  | nils => exact single (.v _ _ .nils) rfl rfl rfl
  | tt => exact single (.v _ _ .tt) rfl rfl rfl
  | ff => exact single (.v _ _ .ff) rfl rfl rfl
  | int k n => exact single (.v _ _ (.int k n)) rfl rfl rfl
  | bool b => exact single (.v _ _ (.bool b)) rfl rfl rfl
  | str l => exact single (.v _ _ (.str l)) rfl rfl rfl
  | list c l t a cap b o vals h1 h2 h3 h4 h5 h6 => exact single (.v _ _ (.list c l t a cap b o vals h1 h2 h3 h4 h5 h6)) rfl rfl rfl
  | fptr x f b o vals h1 h2 h3 => exact single (.v _ _ (.fptr x f b o vals h1 h2 h3)) rfl rfl rfl
  | fmap kc vc es r ents h1 h2 h3 h4 => exact single (.v _ _ (.fmap kc vc es r ents h1 h2 h3 h4)) rfl rfl rfl
  | fn f => exact single (.v _ _ (.fn f)) rfl rfl rfl
  | iface t x y h => exact single (.v _ _ (.iface t x y h)) rfl rfl rfl
  | nilp => exact single (.v _ _ .nilp) rfl rfl rfl
  | nilm => exact single (.v _ _ .nilm) rfl rfl rfl
  | nilf => exact single (.v _ _ .nilf) rfl rfl rfl
  | nili => exact single (.v _ _ .nili) rfl rfl rfl
 | ptr i g e f b sz ct h => exact single (.ptr i g e f b sz ct h) rfl rfl rfl
 | arr i g off len b sz ct cap o h h1 h2 h3 => exact single (.arr i g off len b sz ct cap o h h1 h2 h3) rfl rfl rfl
 | arrNil i g sz ct h => exact single (.arrNil i g sz ct h) rfl rfl rfl
 | mapr i b sz ct h => exact single (.mapr i b sz ct h) rfl rfl rfl
 | iter i b sz ct h => exact single (.iter i b sz ct h) rfl rfl rfl
 | bsl i n b sz ct h => exact single (.bsl i n b sz ct h) rfl rfl rfl
 | ref0 c e p => exact single (.ref0 c e p) rfl rfl rfl
 | ref h c e p b ct hl hp => exact single (.ref h c e p b ct hl hp) rfl rfl rfl
 | sl0 c a => exact single (.sl0 c a) rfl rfl rfl
 | sl s c b ct o hl h1 h2 h3 => exact single (.sl s c b ct o hl h1 h2 h3) rfl rfl rfl
 | mp0 kc vc => exact single (.mp0 kc vc) rfl rfl rfl
 | mp h kc vc b sz ct hl => exact single (.mp h kc vc b sz ct hl) rfl rfl rfl
 | clo f l vs h1 h2 => exact single (.clo f l vs h1 h2) rfl rfl rfl
 | ifc0 => exact single .ifc0 rfl rfl rfl
 | ifc t x y h => exact single (.ifc t x y h) rfl rfl rfl
 | agg l vs hl hone hp =>
  refine ⟨by simp [TV.cells, Value.cells, hl], fun j z u hz hu => ?_⟩
  simp only [TV.cells, Value.cells] at hz hu
  have hu' : vs[j]? = some u := by simpa using hu
  exact ⟨hp j z u hz hu', hone u (List.mem_of_getElem? hu')⟩
 | tup => simp [TV.cells, TV.one] at ho

theorem addBoxG (hi : Inv Mine G s.hp s.T w) {x : TV} {y : Value} (el : TypeId) (hc : x.cells.length = y.cells.size)
  (hp : ∀ (j : Nat) z u, x.cells[j]? = some z → y.cells[j]? = some u → TR G z u ∧ u.oneCell' = true) :
  Inv Mine (G.setLoc s.hp.length 0 (some w.heap.size, 1, 1)) (s.addO (.box x)).hp s.T (w.alloc (.cells y.cells el)) ∧ Fz G (G.setLoc s.hp.length 0 (some w.heap.size, 1, 1)) ∧
   Lc s.hp.length G (G.setLoc s.hp.length 0 (some w.heap.size, 1, 1)) ∧ Stp Mine w (w.alloc (.cells y.cells el)) := by
 have hor : OR Mine (G.setLoc s.hp.length 0 (some w.heap.size, 1, 1)) (w.alloc (.cells y.cells el)) s.hp.length (.box x) := by
  refine ⟨w.heap.size, 1, 1, by simp [Gh.setLoc], hi.mine _ (Nat.le_refl _), ⟨fun o => ?_, ?_⟩, y.cells, el, ?_, hc, ?_⟩
  ·show G.cell _ _ = none
   cases h : G.cell w.heap.size o with
   | none => rfl
   | some v => have := hi.cell_lt h; omega
  ·show G.mp _ = none
   cases h : G.mp w.heap.size with
   | none => rfl
   | some v => have := hi.mp_lt h; omega
  ·show (w.heap.push _)[w.heap.size]? = _
   rw [Array.getElem?_push, if_pos rfl]
  ·intro j z u hz hu
   obtain ⟨h1, h2⟩ := hp j z u hz hu
   have hlc : Lc s.hp.length G (G.setLoc s.hp.length 0 (some w.heap.size, 1, 1)) := by
    intro i hil g x hx
    simp only [Gh.setLoc]
    rw [if_neg (by omega)]; exact hx
   exact ⟨TR.mono (G' := G.setLoc s.hp.length 0 (some w.heap.size, 1, 1)) hi.lb ⟨fun _ _ _ x => x, fun _ _ x => x, fun _ _ x => x⟩ hlc h1, h2⟩
 exact hi.addObj (.cells y.cells el) (.box x) 1 1 (fun _ => Iff.rfl) hor

theorem addBox (hi : Inv Mine G s.hp s.T w) {x : TV} {y : Value} (el : TypeId) (hc : x.cells.length = y.cells.size)
  (hp : ∀ (j : Nat) z u, x.cells[j]? = some z → y.cells[j]? = some u → TR G z u ∧ u.oneCell' = true) {K : TV → St → Prop}
  (hk : K (.ptr s.hp.length 0 0 0) (s.addO (.box x))) :
  Res Mine G s w (.ok (.pointer (some ⟨w.heap.size, 0, none⟩)) (w.alloc (.cells y.cells el))) K := by
 obtain ⟨h1, h2, h3, h4⟩ := addBoxG hi el hc hp
 refine ⟨_, _, _, .ptr s.hp.length 0 0 0, s.addO (.box x), rfl, hk, ?_, rfl, h1, h2, h3, by simp [St.addO], h4⟩
 exact .ptr s.hp.length 0 0 0 w.heap.size 1 1 (by simp [Gh.setLoc, O.gen])

theorem run_zero (htt : TTOK P tt) {t : Nat} (hok : (tt.at t).ok = true) (w : World) :
  ∃ i z, P.info? t = some i ∧ i.zero = some z ∧ i.size = (tt.at t).size ∧ i.bytes = (tt.at t).bytes ∧ (∀ G, VR G (tt.at t).zero z) ∧
   z.cells.size = (tt.at t).size ∧ (tt.at t).zero.cells.length = (tt.at t).size ∧ z.cells.all (·.oneCell') = true ∧ (zeroValue t).run P w = .ok z w := by
 obtain ⟨i, z, h1, h2, h3, h4, h5, h6, h7, h8⟩ := (htt t hok).info
 exact ⟨i, z, h1, h2, h3, h4, h5, h6, h7, h8, by simp [zeroValue, typeInfo, h1, h2]⟩

theorem VR.cellsAt {x : V} {y : Value} (h : VR G x y) (hl : x.cells.length = y.cells.size) (hone : y.cells.all (·.oneCell') = true) :
  ∀ (j : Nat) z u, (TV.v x).cells[j]? = some z → y.cells[j]? = some u → TR G z u ∧ u.oneCell' = true := by
 intro j z u hz hu
 have ho : u.oneCell' = true := by
  have := Array.all_eq_true.1 hone
  obtain ⟨hj, rfl⟩ := Array.getElem?_eq_some_iff.1 hu
  exact this j hj
 refine ⟨?_, ho⟩
 have single : ∀ {x : V} {y : Value}, VR G x y → x.cells = [x] → x.cells.length = y.cells.size → (∀ v, y ≠ .agg v) → (TV.v x).cells[j]? = some z → y.cells[j]? = some u → TR G z u := by
  intro x y h h1 h2 h3 hz hu
  have hy : y.cells = #[y] := by cases y <;> first | rfl | exact absurd rfl (h3 _)
  rw [hy] at hu
  simp only [TV.cells, h1] at hz
  match j with
  | 0 => simp at hz hu; subst hz hu; exact .v _ _ h
  | j + 1 => simp at hz
 cases h with
 | agg l vs hl hone hp =>
  simp only [TV.cells, V.cells, Value.cells, List.getElem?_map] at hz hu
  cases hlj : l[j]? with
  | none => rw [hlj] at hz; cases hz
  | some q =>
   rw [hlj] at hz; simp at hz; subst hz
   exact .v _ _ (hp j q u hlj (by simpa using hu))
 | undef y =>
  simp only [TV.cells, V.cells] at hz
  match j with
  | 0 => simp at hz; subst hz; exact .undef _
  | j + 1 => simp at hz
 | tt => exact single .tt rfl hl (by intro v e; cases e) hz hu
 | ff => exact single .ff rfl hl (by intro v e; cases e) hz hu
 | int k n => exact single (.int k n) rfl hl (by intro v e; cases e) hz hu
 | bool b => exact single (.bool b) rfl hl (by intro v e; cases e) hz hu
 | str l => exact single (.str l) rfl hl (by intro v e; cases e) hz hu
 | tup l vs h1 h2 => exact single (.tup l vs h1 h2) rfl hl (by intro v e; cases e) hz hu
 | list c l t a cap b o vals h1 h2 h3 h4 h5 h6 => exact single (.list c l t a cap b o vals h1 h2 h3 h4 h5 h6) rfl hl (by intro v e; cases e) hz hu
 | fptr x f b o vals h1 h2 h3 => exact single (.fptr x f b o vals h1 h2 h3) rfl hl (by intro v e; cases e) hz hu
 | fmap kc vc es r ents h1 h2 h3 h4 => exact single (.fmap kc vc es r ents h1 h2 h3 h4) rfl hl (by intro v e; cases e) hz hu
 | fn f => exact single (.fn f) rfl hl (by intro v e; cases e) hz hu
 | iface t x y h => exact single (.iface t x y h) rfl hl (by intro v e; cases e) hz hu
 | nils => exact single .nils rfl hl (by intro v e; cases e) hz hu
 | nilp => exact single .nilp rfl hl (by intro v e; cases e) hz hu
 | nilm => exact single .nilm rfl hl (by intro v e; cases e) hz hu
 | nilf => exact single .nilf rfl hl (by intro v e; cases e) hz hu
 | nili => exact single .nili rfl hl (by intro v e; cases e) hz hu

theorem alloc_sound (htt : TTOK P tt) {e : Nat} (hok : (tt.at e).ok = true) (hi : Inv Mine G s.hp s.T w) {K : TV → St → Prop}
  (h : K (.ptr s.hp.length 0 0 0) (s.addO (.box (.v (tt.at e).zero)))) : Res Mine G s w ((Instr.alloc e true (.tuple #[])).run P w) K := by
 obtain ⟨i, z, h1, h2, h3, h4, h5, h6, h7, h8, h9⟩ := run_zero htt hok w
 have hr : (Instr.alloc e true (.tuple #[])).run P w = .ok (.pointer (some ⟨w.heap.size, 0, none⟩)) (w.alloc (.cells z.cells e)) := by
  simp [Instr.alloc, h9, newVar, newRow]
 rw [hr]
 have hlen : (tt.at e).zero.cells.length = z.cells.size := by rw [h7, h6]
 exact addBox hi e (by simpa [TV.cells] using hlen) ((h5 G).cellsAt hlen h8) h

theorem box_sound {e : Nat} (hi : Inv Mine G s.hp s.T w) {x : TV} {y : Value} (hx : TR G x y) (ho : x.cells.all TV.one = true) {K : TV → St → Prop}
  (h : K (.ptr s.hp.length 0 0 0) (s.addO (.box x))) : Res Mine G s w ((Instr.box e y).run P w) K := by
 have hr : (Instr.box e y).run P w = .ok (.pointer (some ⟨w.heap.size, 0, none⟩)) (w.alloc (.cells y.cells e)) := by
  simp [Instr.box, newVar, newRow]
 rw [hr]
 obtain ⟨h1, h2⟩ := hx.cells ho
 exact addBox hi e h1 h2 h

end
end Go.Proofs.YtdcljlafookliaaDoor.AB

namespace Go.Proofs.YtdcljlafookliaaDoor.AB
open Go

theorem Cd.length_cells : (c : Cd) → (x : c.T) → (c.cells x).length = c.sz
 | .unit, _ => rfl
 | .int _, _ => rfl
 | .bool, _ => rfl
 | .str, _ => rfl
 | .slice _, _ => rfl
 | .pair a b, p => by simp [Cd.cells, Cd.sz, Cd.length_cells a, Cd.length_cells b]

theorem Cd.cells_enc (c : Cd) (x : c.T) : (c.enc x).cells = c.cells x := by
 cases c <;> rfl

theorem Cd.length_encT (c : Cd) (x : c.T) (t : Tok) : (c.encT x t).cells.length = c.sz := by
 cases c <;> first | rfl | skip
 simp [Cd.encT, V.cells, Cd.sz, Cd.length_cells]

theorem Cd.get_spec : (c : Cd) → (l : List V) → (a : c.T) → (r : List V) → c.get l = some (a, r) →
  l.length = c.sz + r.length ∧ (∀ j : Nat, r[j]? = l[c.sz + j]?) ∧
  ∀ (j : Nat) q, (c.cells a)[j]? = some q → ∃ p, l[j]? = some p ∧ ∀ G u, VR G p u → VR G q u
 | .unit, l, a, r, h => by
  simp only [Cd.get, Option.some.injEq, Prod.mk.injEq, true_and] at h
  subst h
  exact ⟨by simp [Cd.sz], fun j => by simp [Cd.sz], fun j q hq => by simp [Cd.cells] at hq⟩
 | .int k, l, a, r, h => by
  simp only [Cd.get] at h
  split at h
  ·split at h
   ·subst_vars
    cases h
    refine ⟨by simp [Cd.sz]; omega, fun j => by simp [Cd.sz, Nat.add_comm 1 j], fun j q hq => ?_⟩
    match j with
    | 0 => simp [Cd.cells] at hq; subst hq; exact ⟨_, rfl, fun _ _ h => h⟩
    | j + 1 => simp [Cd.cells] at hq
   ·cases h
  ·cases h
 | .bool, l, a, r, h => by
  simp only [Cd.get] at h
  split at h
  ·cases h
   refine ⟨by simp [Cd.sz]; omega, fun j => by simp [Cd.sz, Nat.add_comm 1 j], fun j q hq => ?_⟩
   match j with
   | 0 => simp [Cd.cells] at hq; subst hq; exact ⟨_, rfl, fun _ _ h => h⟩
   | j + 1 => simp [Cd.cells] at hq
  ·cases h
   refine ⟨by simp [Cd.sz]; omega, fun j => by simp [Cd.sz, Nat.add_comm 1 j], fun j q hq => ?_⟩
   match j with
   | 0 => simp [Cd.cells] at hq; subst hq; exact ⟨_, rfl, fun _ _ h => by cases h; exact .bool true⟩
   | j + 1 => simp [Cd.cells] at hq
  ·cases h
   refine ⟨by simp [Cd.sz]; omega, fun j => by simp [Cd.sz, Nat.add_comm 1 j], fun j q hq => ?_⟩
   match j with
   | 0 => simp [Cd.cells] at hq; subst hq; exact ⟨_, rfl, fun _ _ h => by cases h; exact .bool false⟩
   | j + 1 => simp [Cd.cells] at hq
  ·cases h
 | .str, l, a, r, h => by
  simp only [Cd.get] at h
  split at h
  ·cases h
   refine ⟨by simp [Cd.sz]; omega, fun j => by simp [Cd.sz, Nat.add_comm 1 j], fun j q hq => ?_⟩
   match j with
   | 0 => simp [Cd.cells] at hq; subst hq; exact ⟨_, rfl, fun _ _ h => h⟩
   | j + 1 => simp [Cd.cells] at hq
  ·cases h
 | .slice c, l, a, r, h => by
  simp only [Cd.get] at h
  split at h
  ·split at h
   ·rename_i hc
    subst hc
    cases h
    refine ⟨by simp [Cd.sz]; omega, fun j => by simp [Cd.sz, Nat.add_comm 1 j], fun j q hq => ?_⟩
    match j with
    | 0 =>
     simp [Cd.cells] at hq; subst hq
     refine ⟨_, rfl, fun G u h => ?_⟩
     cases h with
     | list _ _ _ a cap b o vals h1 h2 h3 h4 h5 h6 => exact .list _ _ .no a cap b o vals h1 h2 h3 h4 h5 trivial
    | j + 1 => simp [Cd.cells] at hq
   ·cases h
  ·cases h
   refine ⟨by simp [Cd.sz]; omega, fun j => by simp [Cd.sz, Nat.add_comm 1 j], fun j q hq => ?_⟩
   match j with
   | 0 =>
    simp [Cd.cells] at hq; subst hq
    refine ⟨_, rfl, fun G u h => ?_⟩
    cases h
    exact VR.list c [] .no none 0 0 0 (fun _ => Go.undef) (fun h => absurd rfl h) (Nat.le_refl _) (fun i x hx => by simp at hx) (fun i x hx => by simp at hx) (fun i x hx => by simp at hx) trivial
   | j + 1 => simp [Cd.cells] at hq
  ·cases h
 | .pair a b, l, x, r, h => by
  simp only [Cd.get] at h
  split at h
  ·rename_i x1 l1 h1
   split at h
   ·rename_i x2 l2 h2
    cases h
    obtain ⟨p1, p2, p3⟩ := Cd.get_spec a l x1 l1 h1
    obtain ⟨q1, q2, q3⟩ := Cd.get_spec b l1 x2 r h2
    refine ⟨by simp only [Cd.sz]; omega, fun j => by rw [q2, p2]; simp only [Cd.sz, Nat.add_assoc], fun j q hq => ?_⟩
    simp only [Cd.cells, List.getElem?_append, Cd.length_cells] at hq
    split at hq
    ·exact p3 j q hq
    ·rename_i hj
     obtain ⟨p, e1, e2⟩ := q3 _ q hq
     refine ⟨p, ?_, e2⟩
     rw [p2] at e1
     rw [show j = a.sz + (j - a.sz) by omega]; exact e1
   ·cases h
  ·cases h

section
variable {P : Program} {tt : TT} {Mine : Mn} {G : Gh} {s : St} {a : Act} {w : World}

theorem VR.norm0 {x : V} {y : Value} (h : VR G x y) : VR G x.norm0 y := by
 cases h with
 | list c l t a cap b o vals h1 h2 h3 h4 h5 h6 => exact .list c l .no a cap b o vals h1 h2 h3 h4 h5 trivial
 | tt => exact .bool true
 | ff => exact .bool false
 | undef y => exact .undef y
 | int k n => exact .int k n
 | bool b => exact .bool b
 | str l => exact .str l
 | agg l vs hl ho h => exact .agg l vs hl ho h
 | tup l vs hl h => exact .tup l vs hl h
 | fptr x f b o vals hc ho hv => exact .fptr x f b o vals hc ho hv
 | fmap kc vc es r ents hm hl hk hv => exact .fmap kc vc es r ents hm hl hk hv
 | fn f => exact .fn f
 | iface t x y h => exact .iface t x y h
 | nils => exact .nils
 | nilp => exact .nilp
 | nilm => exact .nilm
 | nilf => exact .nilf
 | nili => exact .nili

theorem VR.mapP {l : List V} {vs : List Value} (f : V → V) (hf : ∀ x y, VR G x y → VR G (f x) y)
  (h : ∀ (i : Nat) x y, l[i]? = some x → vs[i]? = some y → VR G x y) : ∀ (i : Nat) x y, (l.map f)[i]? = some x → vs[i]? = some y → VR G x y := by
 intro i x y hx hy
 simp only [List.getElem?_map] at hx
 cases hl : l[i]? with
 | none => rw [hl] at hx; cases hx
 | some q => rw [hl] at hx; cases hx; exact hf _ _ (h i q y hl hy)

theorem VR.norm1 {x : V} {y : Value} (h : VR G x y) : VR G x.norm1 y := by
 cases x with
 | agg l =>
  cases h with
  | agg _ vs hl ho h => exact .agg _ vs (by simpa using hl) ho (VR.mapP V.norm0 (fun _ _ h => h.norm0) h)
 | _ => exact h.norm0

theorem VR.norm {x : V} {y : Value} (h : VR G x y) : VR G x.norm y := by
 cases x with
 | tup l =>
  cases h with
  | tup _ vs hl h => exact .tup _ vs (by simpa using hl) (VR.mapP V.norm1 (fun _ _ h => h.norm1) h)
 | _ => exact h.norm1

theorem TR.toV {x : TV} {y : Value} (h : TR G x y) : VR G x.toV y := by
 cases h with
 | v x y h => exact h.norm1
 | agg l vs hl ho h =>
  refine .agg _ vs (by simpa using hl) ho (fun i x y hx hy => ?_)
  simp only [List.getElem?_map] at hx
  cases hli : l[i]? with
  | none => rw [hli] at hx; cases hx
  | some q =>
   rw [hli] at hx; cases hx
   have := h i q y hli hy
   cases this with
   | v x y h => exact h.norm0
   | _ => exact .undef _
 | _ => exact .undef _

theorem dec_cells {c : Cd} {x : V} {y : Value} {v : c.T} (hd : c.dec x = some v) (h : VR G x y) :
  ∀ (j : Nat) q, (c.cells v)[j]? = some q → ∃ u, y.cells[j]? = some u ∧ VR G q u := by
 unfold Cd.dec at hd
 split at hd
 ·cases hd
 rename_i hnu
 split at hd
 case h_2 => cases hd
 rename_i b hg
 cases hd
 obtain ⟨g1, g2, g3⟩ := Cd.get_spec c _ _ _ hg
 intro j q hq
 obtain ⟨p, e1, e2⟩ := g3 j q hq
 have single : ∀ {x : V} {y : Value}, VR G x y → x.cells = [x] → (∀ v, y ≠ .agg v) → x.cells[j]? = some p → ∃ u, y.cells[j]? = some u ∧ VR G q u := by
  intro x y h h1 h3 hz
  have hy : y.cells = #[y] := by cases y <;> first | rfl | exact absurd rfl (h3 _)
  rw [h1] at hz
  match j with
  | 0 => simp at hz; subst hz; exact ⟨y, by rw [hy]; rfl, e2 _ _ h⟩
  | j + 1 => simp at hz
 cases h with
 | agg l vs hl hone hp =>
  simp only [V.cells] at e1
  have hj : j < vs.length := by rw [← hl]; exact (List.getElem?_eq_some_iff.1 e1).1
  exact ⟨vs[j], by simp [Value.cells, hj], e2 _ _ (hp j p _ e1 (by simp [hj]))⟩
 | undef y => exact absurd rfl hnu
 | tt => exact single .tt rfl (by intro v e; cases e) e1
 | ff => exact single .ff rfl (by intro v e; cases e) e1
 | int k n => exact single (.int k n) rfl (by intro v e; cases e) e1
 | bool b => exact single (.bool b) rfl (by intro v e; cases e) e1
 | str l => exact single (.str l) rfl (by intro v e; cases e) e1
 | tup l vs h1 h2 => exact single (.tup l vs h1 h2) rfl (by intro v e; cases e) e1
 | list c l t a cap b o vals h1 h2 h3 h4 h5 h6 => exact single (.list c l t a cap b o vals h1 h2 h3 h4 h5 h6) rfl (by intro v e; cases e) e1
 | fptr x f b o vals h1 h2 h3 => exact single (.fptr x f b o vals h1 h2 h3) rfl (by intro v e; cases e) e1
 | fmap kc vc es r ents h1 h2 h3 h4 => exact single (.fmap kc vc es r ents h1 h2 h3 h4) rfl (by intro v e; cases e) e1
 | fn f => exact single (.fn f) rfl (by intro v e; cases e) e1
 | iface t x y h => exact single (.iface t x y h) rfl (by intro v e; cases e) e1
 | nils => exact single .nils rfl (by intro v e; cases e) e1
 | nilp => exact single .nilp rfl (by intro v e; cases e) e1
 | nilm => exact single .nilm rfl (by intro v e; cases e) e1
 | nilf => exact single .nilf rfl (by intro v e; cases e) e1
 | nili => exact single .nili rfl (by intro v e; cases e) e1

end
end Go.Proofs.YtdcljlafookliaaDoor.AB

namespace Go.Proofs.YtdcljlafookliaaDoor.AB
open Go

theorem mkAgg_cells (l : List TV) : (TV.mkAgg l).cells = l := by
 unfold TV.mkAgg
 split
 ·rename_i vs h
  rw [allV_some h]; rfl
 ·rfl

section
variable {P : Program} {tt : TT} {Mine : Mn} {G : Gh} {s : St} {a : Act} {w : World}

def CR (G : Gh) (l : List TV) (us : List Value) : Prop :=
 l.length = us.length ∧ ∀ (j : Nat) z u, l[j]? = some z → us[j]? = some u → TR G z u ∧ u.oneCell' = true

theorem CR.put {l x : List TV} {us ys : List Value} {f : Nat} (h : CR G l us) (k : CR G x ys) (hf : f + x.length ≤ l.length) :
  CR G (putC l x f) (us.take f ++ ys ++ us.drop (f + ys.length)) := by
 obtain ⟨h1, h2⟩ := h
 obtain ⟨k1, k2⟩ := k
 refine ⟨by simp only [putC, List.length_append, List.length_take, List.length_drop]; omega, fun j z u hz hu => ?_⟩
 simp only [putC, List.append_assoc, List.getElem?_append, List.length_take, List.getElem?_take, List.getElem?_drop] at hz hu
 rw [show min f l.length = f by omega] at hz
 rw [show min f us.length = f by omega] at hu
 by_cases c1 : j < f
 ·rw [if_pos c1, if_pos c1] at hz hu
  exact h2 j z u hz hu
 ·rw [if_neg c1] at hz hu
  rw [k1] at hz
  by_cases c2 : j - f < ys.length
  ·rw [if_pos c2] at hz hu
   exact k2 _ z u hz hu
  ·rw [if_neg c2] at hz hu
   exact h2 _ z u hz hu

theorem storeBox_R {y0 x z : TV} {n f : Nat} (hs : storeBox y0 x n f = some z) {us : List Value} (hu : CR G y0.cells us) {y : Value} (hx : TR G x y) :
  y.cells.size = n ∧ f + n ≤ us.length ∧ (∀ u ∈ y.cells.toList, u.oneCell' = true) ∧
  ∃ yz, TR G z yz ∧ yz.cells.toList = us.take f ++ y.cells.toList ++ us.drop (f + n) ∧ CR G z.cells (us.take f ++ y.cells.toList ++ us.drop (f + n)) := by
 unfold storeBox at hs
 split at hs
 case h_2 => cases hs
 rename_i c1 c2 c3
 have c1 := Nat.eq_of_beq_eq_true c1
 have c2 := Nat.le_of_ble_eq_true c2
 obtain ⟨q1, q2⟩ := hx.cells c3
 have hn : y.cells.size = n := by omega
 have hone : ∀ u ∈ y.cells.toList, u.oneCell' = true := by
  intro u hu
  obtain ⟨j, hj⟩ := List.getElem?_of_mem hu
  have hj' : y.cells[j]? = some u := by simpa using hj
  have hjl : j < x.cells.length := by rw [q1]; exact (Array.getElem?_eq_some_iff.1 hj').1
  exact (q2 j x.cells[j] u (List.getElem?_eq_getElem hjl) hj').2
 have hcr : CR G x.cells y.cells.toList := ⟨by simpa using q1, fun j z u hz hu => q2 j z u hz (by simpa using hu)⟩
 have hput := hu.put hcr (f := f) (by omega)
 have hlen : y.cells.toList.length = n := by simpa using hn
 rw [hlen] at hput
 have hagg : ∀ z', TV.mkAgg (putC y0.cells x.cells f) = z' → ∃ yz, TR G z' yz ∧ yz.cells.toList = us.take f ++ y.cells.toList ++ us.drop (f + n) ∧
   CR G z'.cells (us.take f ++ y.cells.toList ++ us.drop (f + n)) := by
  intro z' e
  subst e
  refine ⟨.agg (us.take f ++ y.cells.toList ++ us.drop (f + n)).toArray, TR.mkAgg hput.1 ?_ (fun i x y hx hy => (hput.2 i x y hx hy).1), by simp [Value.cells], by rw [mkAgg_cells]; exact hput⟩
  intro u hu
  obtain ⟨j, hj⟩ := List.getElem?_of_mem hu
  have hjl : j < (putC y0.cells x.cells f).length := by rw [hput.1]; exact (List.getElem?_eq_some_iff.1 hj).1
  exact (hput.2 j _ u (List.getElem?_eq_getElem hjl) hj).2
 refine ⟨hn, by rw [← hu.1]; exact c2, hone, ?_⟩
 split at hs
 ·cases hs; exact hagg _ rfl
 ·cases hs; exact hagg _ rfl
 ·rename_i y0' hna1 hna2
  split at hs
  ·cases hs
   have h1 : y0.cells.length = 1 := by
    cases y0 with
    | v q => cases q <;> first | rfl | exact absurd rfl (hna1 _)
    | agg l => exact absurd rfl (hna2 _)
    | _ => rfl
   have hf : f = 0 := by omega
   subst hf
   have h2 : us.length = 1 := by rw [← hu.1]; exact h1
   have e : us.take 0 ++ y.cells.toList ++ us.drop (0 + 1) = y.cells.toList := by
    simp [List.drop_eq_nil_of_le (by omega : us.length ≤ 1)]
   rw [e]
   exact ⟨y, hx, rfl, hcr⟩
  ·cases hs

theorem run_storeAt (htt : TTOK P tt) {t : Nat} (hok : (tt.at t).ok = true) {b o : Nat} {cur : Array Value} {el : TypeId} {y : Value}
  (hb : w.heap[b]? = some (.cells cur el (0, 0))) (hn : y.cells.size = (tt.at t).size) (hf : o + (tt.at t).size ≤ cur.size) (h1 : ∀ u ∈ y.cells.toList, u.oneCell' = true) :
  (Instr.storeAt t (.pointer (some ⟨b, o, none⟩)) y).run P w =
   .ok () (w.setRow b (cur.toList.take o ++ y.cells.toList ++ cur.toList.drop (o + (tt.at t).size)).toArray) := by
 have h := run_storeCells_at P b o el y.cells.toList 0 cur w hb (by simp; omega) h1
 simp only [Nat.add_zero, Array.length_toList, hn] at h
 simp [Instr.storeAt, Instr.sureAddr, storeVar, run_sizeOf htt hok, hn, h]

theorem Stp.setRow {cs : Array Value} {b : Nat} (hm : Mine b) : Stp Mine w (w.setRow b cs) :=
 ⟨rfl, rfl, rfl, by simp, fun k hk => setRow_other w b k cs (fun e => hk (e ▸ hm))⟩

theorem encT_R {c : Cd} {z : TV} {x : c.T} (hd : c.dec z.toV = some x) {yz : Value} (hz : TR G z yz) :
  ∀ (j : Nat) q, (c.encT x z.tok).cells[j]? = some q → ∃ u, yz.cells[j]? = some u ∧ VR G q u := by
 have gen : (∀ (j : Nat) q, (c.cells x)[j]? = some q → ∃ u, yz.cells[j]? = some u ∧ VR G q u) := dec_cells hd hz.toV
 cases c with
 | slice c =>
  intro j q hq
  simp only [Cd.encT, V.cells] at hq
  match j with
  | j + 1 => simp at hq
  | 0 =>
   simp at hq
   subst hq
   cases z with
   | v p =>
    cases hz with
    | v _ _ hv =>
     cases p with
     | list c' l t =>
      simp only [TV.toV, V.norm1, V.norm0, Cd.dec, V.cells, Cd.get] at hd
      split at hd
      ·rename_i b he
       split at he
       ·rename_i hc
        subst hc
        cases he
        cases hd
        cases hv with
        | list _ _ _ a cap b o vals h1 h2 h3 h4 h5 h6 =>
         exact ⟨_, rfl, .list _ _ _ a cap b o vals h1 h2 h3 h4 h5 h6⟩
       ·cases he
      ·cases hd
     | agg l =>
      obtain ⟨u, h1, h2⟩ := gen 0 _ rfl
      refine ⟨u, h1, ?_⟩
      exact h2
     | _ =>
      obtain ⟨u, h1, h2⟩ := gen 0 _ rfl
      exact ⟨u, h1, h2⟩
   | _ =>
    obtain ⟨u, h1, h2⟩ := gen 0 _ rfl
    exact ⟨u, h1, h2⟩
 | _ => exact gen

theorem hp_get {hp : Hp} {i : Nat} {o : O} (h : hp.getD i none = some o) : hp[i]? = some (some o) := by
 simp only [List.getD] at h
 cases hh : hp[i]? with
 | none => rw [hh] at h; cases h
 | some x => rw [hh] at h; simp only [Option.getD_some] at h; rw [h]

def unitR (r : Result Unit) : Result Value := r.andThen fun _ w => .ok Go.undef w

theorem Res.set {i : Nat} {o o' : O} (hi : Inv Mine G s.hp s.T w) (hx : s.hp[i]? = some (some o)) (hg : o'.gen = o.gen) (hh : ∀ g, o'.has g → o.has g) {b : Nat}
  (hb : Owns G i o b) {cs : Array Value} {r : Result Unit} (hr : r = .ok () (w.setRow b cs)) (hm : Mine b)
  (ho : OR Mine G (w.setRow b cs) i o') {K : TV → St → Prop} (hk : K (.v .undef) (s.setO i o')) : Res Mine G s w (unitR r) K := by
 subst hr
 refine ⟨_, _, G, .v .undef, s.setO i o', rfl, hk, TR.undef _, rfl, ?_, .refl _, .refl _ _, by simp [St.setO], Stp.setRow hm⟩
 exact hi.setObj i o o' hx hg hh b hb (Stp.setRow hm) (fun k hk => setRow_other w b k cs hk) ho

theorem store_sound (htt : TTOK P tt) {t : Nat} (hok : (tt.at t).ok = true) {p x : TV} {q y : Value} {K : TV → St → Prop} (h : storeK tt t p x s K)
  (hi : Inv Mine G s.hp s.T w) (hp : TR G p q) (hxy : TR G x y) : Res Mine G s w (unitR ((Instr.storeAt t q y).run P w)) K := by
 unfold storeK at h
 split at h
 case h_2 => exact h.elim
 rename_i i g e f
 cases hp with
 | ptr _ _ _ _ b sz ct hloc =>
  split at h
  ·rename_i y0 hx
   have hx' := hp_get hx
   split at h
   ·split at h
    ·rename_i z hz
     obtain ⟨b', s', c', h1, h2, h3, cur, el, h4, h5, h6⟩ := hi.objs i _ hx'
     have h1' := h1
     rw [hloc] at h1; cases h1
     have hcr : CR G y0.cells cur.toList := ⟨by simpa using h5, fun j z u hz hu => h6 j z u hz (by simpa using hu)⟩
     obtain ⟨k1, k2, k3, yz, k4, k5, k6⟩ := storeBox_R hz hcr hxy
     have hr := run_storeAt (w := w) (b := b) (o := f) htt hok h4 k1 (by simpa using k2) k3
     refine Res.set (o' := .box z) hi hx' rfl (fun _ h => h) (b := b) ⟨0, sz, ct, rfl, hloc⟩ (cs := (cur.toList.take f ++ y.cells.toList ++ cur.toList.drop (f + (tt.at t).size)).toArray) (by rw [Nat.zero_mul, Nat.zero_add]; exact hr) h2 ?_ h
     refine ⟨b, sz, ct, h1', h2, h3, _, el, setRow_heap w b cur _ el _ h4, by rw [List.size_toArray]; exact k6.1, fun j z u hz hu => ?_⟩
     exact k6.2 j z u hz (by simpa using hu)
    ·exact h.elim
   ·exact h.elim
  ·rename_i g' c l ts hx
   have hx' := hp_get hx
   obtain ⟨rfl, he, h⟩ := h
   split at h
   ·rename_i z hz
    split at h
    ·rename_i v hv
     obtain ⟨bo, ct', h1, hle, h2⟩ := hi.objs i _ hx'
     have h1' := h1
     rw [hloc] at h1; cases h1
     obtain ⟨h2, h3, cur, el, h4, h5, h6⟩ := h2
     have hel : l[e]? = some (l.getD e c.dflt) := by simp [List.getD, he]
     have hall := h6 e _ hel
     have hmul : ∀ e', e' < l.length → e' * c.sz + c.sz ≤ cur.size := by
      intro e' he'
      rw [h5, ← Nat.succ_mul]; exact Nat.mul_le_mul_right _ (by omega)
     have hlen := Cd.length_encT c (l.getD e c.dflt) (ts e)
     have hcr : CR G (TV.v (c.encT (l.getD e c.dflt) (ts e))).cells ((cur.toList.drop (e * c.sz)).take c.sz) := by
      refine ⟨?_, fun j z u hz hu => ?_⟩
      ·simp only [TV.cells, List.length_map, hlen, List.length_take, List.length_drop, Array.length_toList]
       have := hmul e he; omega
      ·simp only [TV.cells, List.getElem?_map] at hz
       cases hc : (c.encT (l.getD e c.dflt) (ts e)).cells[j]? with
       | none => rw [hc] at hz; cases hz
       | some q =>
        rw [hc] at hz; cases hz
        obtain ⟨u', q1, q2, q3⟩ := hall j q hc
        simp only [List.getElem?_take, List.getElem?_drop] at hu
        split at hu
        ·rw [Array.getElem?_toList, q1] at hu
         cases hu
         exact ⟨.v _ _ q2, q3⟩
        ·cases hu
     obtain ⟨k1, k2, k3, yz, k4, k5, k6⟩ := storeBox_R hz hcr hxy
     have hsz := hmul e he
     have k2' : f + (tt.at t).size ≤ c.sz := by
      simp only [List.length_take, List.length_drop, Array.length_toList] at k2; omega
     have hr := run_storeAt (w := w) (b := b) (o := e * c.sz + f) htt hok h4 k1 (by omega) k3
     refine Res.set (o' := .arr g c (l.set e v) (fun j => if j = e then z.tok else ts j)) hi hx' rfl (fun _ h => h) (b := b) ⟨g, c.sz, ct, rfl, hloc⟩ hr h2 ?_ h
     refine ⟨some b, ct, h1', by simpa using hle, h2, h3, _, el, setRow_heap w b cur _ el _ h4, ?_, ?_⟩
     ·rw [List.size_toArray]
      simp only [List.length_append, List.length_take, List.length_drop, Array.length_toList, k1]
      omega
     ·have hyl : y.cells.toList.length = (tt.at t).size := by simpa using k1
      intro e' x' hx'' j q hq
      have hj : j < c.sz := by
       have := (List.getElem?_eq_some_iff.1 hq).1
       rw [Cd.length_encT] at this; exact this
      by_cases hee : e = e'
      ·subst hee
       simp only [List.getElem?_set, he, if_true] at hx''
       cases hx''
       replace hq : (c.encT v z.tok).cells[j]? = some q := by
        have : (fun j => if j = e then z.tok else ts j) e = z.tok := if_pos rfl
        rw [← this]; exact hq
       obtain ⟨u, u1, u2⟩ := encT_R hv k4 j q hq
       have u1' : yz.cells.toList[j]? = some u := by simpa using u1
       rw [k5] at u1'
       have hzl : j < z.cells.length := by rw [k6.1]; exact (List.getElem?_eq_some_iff.1 u1').1
       refine ⟨u, ?_, u2, (k6.2 j _ u (List.getElem?_eq_getElem hzl) u1').2⟩
       rw [← u1']
       simp only [List.getElem?_toArray, List.append_assoc, List.getElem?_append, List.length_take, List.length_drop, Array.length_toList, List.getElem?_take, List.getElem?_drop, hyl]
       have m1 : min (e * c.sz + f) cur.size = e * c.sz + f := by omega
       have m2 : min f (min c.sz (cur.size - e * c.sz)) = f := by omega
       rw [m1, m2]
       by_cases c1 : j < f
       ·rw [if_pos (by omega), if_pos c1, if_pos (by omega), if_pos c1, if_pos (by omega)]
       ·rw [if_neg (by omega), if_neg c1]
        have e3 : e * c.sz + j - (e * c.sz + f) = j - f := by omega
        rw [e3]
        by_cases c2 : j - f < (tt.at t).size
        ·rw [if_pos c2, if_pos c2]
        ·rw [if_neg c2, if_neg c2, if_pos (by omega)]
         congr 1; omega
      ·simp only [List.getElem?_set, if_neg hee] at hx''
       replace hq : (c.encT x' (ts e')).cells[j]? = some q := by
        have : (fun j => if j = e then z.tok else ts j) e' = ts e' := if_neg (fun h => hee h.symm)
        rw [← this]; exact hq
       obtain ⟨u, q1, q2, q3⟩ := h6 e' x' hx'' j q hq
       refine ⟨u, ?_, q2, q3⟩
       rw [← q1]
       have he' := (List.getElem?_eq_some_iff.1 hx'').1
       have hsz' := hmul e' he'
       simp only [List.getElem?_toArray, List.append_assoc, List.getElem?_append, List.length_take, Array.length_toList, List.getElem?_take, List.getElem?_drop, hyl]
       have m1 : min (e * c.sz + f) cur.size = e * c.sz + f := by omega
       rw [m1]
       rcases Nat.lt_or_gt_of_ne hee with c1 | c1
       ·have : (e + 1) * c.sz ≤ e' * c.sz := Nat.mul_le_mul_right _ c1
        rw [Nat.succ_mul] at this
        rw [if_neg (by omega), if_neg (by omega), Array.getElem?_toList]
        congr 1; omega
       ·have : (e' + 1) * c.sz ≤ e * c.sz := Nat.mul_le_mul_right _ c1
        rw [Nat.succ_mul] at this
        rw [if_pos (by omega), if_pos (by omega), Array.getElem?_toList]
    ·exact h.elim
   ·exact h.elim
  ·exact h.elim

end
end Go.Proofs.YtdcljlafookliaaDoor.AB

namespace Go.Proofs.YtdcljlafookliaaDoor.AB
open Go

section
variable {P : Program} {tt : TT} {Mine : Mn} {G : Gh} {s : St} {a : Act} {w : World}

theorem sliceElem_ok (htt : TTOK P tt) {t e : Nat} (h : sliceElem tt t = some e) :
  P.underlying t = some (.slice e) ∧ (tt.at t).ok = true ∧ (tt.at e).ok = true ∧ (tt.at e).cok = true := by
 unfold sliceElem at h
 split at h
 ·rename_i e' h1 h2
  split at h
  ·rename_i h3 h4
   cases h
   obtain ⟨d, hd, hk⟩ := (htt t h1).und
   rw [h2] at hk
   simp only [KOK] at hk
   subst hk
   exact ⟨hd, h1, h3, h4⟩
  ·cases h
 ·cases h

theorem boolOf_R {x : TV} {y : Value} {b : Bool} (h : boolOf x = some b) (hx : TR G x y) : y = .bool b := by
 unfold boolOf at h
 split at h
 all_goals first | (cases h; done) | skip
 all_goals (cases h; cases hx with | v _ _ hv => cases hv; rfl)

theorem pick_sound {c x y : TV} {cv xv yv : Value} {K : TV → St → Prop} (h : pickK c x y s K) (hi : Inv Mine G s.hp s.T w) (hc : TR G c cv) (hx : TR G x xv)
  (hy : TR G y yv) : Res Mine G s w ((do pure (if ← asBool cv then xv else yv) : Sem Value).run P w) K := by
 have go : ∀ b, cv = .bool b → ∀ {r}, K r s → TR G r (if b then xv else yv) → Res Mine G s w ((do pure (if ← asBool cv then xv else yv) : Sem Value).run P w) K := by
  intro b hb r hr ht
  subst hb
  exact Res.same hi (y := if b then xv else yv) (by simp [asBool]) hr ht
 unfold pickK at h
 split at h
 ·cases hc with | v _ _ hv => cases hv; exact go true rfl h hx
 ·cases hc with | v _ _ hv => cases hv; exact go false rfl h hy
 ·rename_i t
  cases hc with
  | v _ _ hv =>
   cases hv
   split at h
   ·rename_i p q hp hq
    have e1 := boolOf_R hp hx
    have e2 := boolOf_R hq hy
    subst e1 e2
    refine go t rfl h ?_
    cases t
    ·exact .v _ _ (.bool q)
    ·exact .v _ _ (.bool p)
   ·cases t
    ·exact go false rfl (h.2 rfl) hy
    ·exact go true rfl (h.1 rfl) hx
 ·exact h.elim

theorem run_andThen_if (c : Prop) [Decidable c] {α β : Type} (x y : Result α) (f : α → World → Result β) :
  (if c then x else y).andThen f = if c then x.andThen f else y.andThen f := by split <;> rfl

theorem intBin_sound {op : BinOp} {k : IntKind} {a b : Int} {K : TV → St → Prop} (h : intBin op k a b fun v => K (.v v) s) (h1 : op ≠ .shl) (h2 : op ≠ .shr)
  (hi : Inv Mine G s.hp s.T w) (t : TypeId) : Res Mine G s w ((binOp op t (.int k a) (.int k b)).run P w) K := by
 have mk : ∀ v, K (.v v) s → ∀ y, VR G v y → (binOp op t (.int k a) (.int k b)).run P w = .ok y w → Res Mine G s w ((binOp op t (.int k a) (.int k b)).run P w) K :=
  fun v hk y hv hr => Res.same hi hr hk (.v _ _ hv)
 cases op <;> simp only [intBin] at h
 case add => exact mk _ h _ (.int _ _) (by simp [binOp, Op.intArith])
 case sub => exact mk _ h _ (.int _ _) (by simp [binOp, Op.intArith])
 case mul => exact mk _ h _ (.int _ _) (by simp [binOp, Op.intArith])
 case quo => exact mk _ h.2 _ (.int _ _) (by simp [binOp, Op.intDiv, h.1])
 case rem => exact mk _ h.2 _ (.int _ _) (by simp [binOp, Op.intDiv, h.1])
 case and => exact mk _ h _ (.int _ _) (by simp [binOp, Op.intBits])
 case or => exact mk _ h _ (.int _ _) (by simp [binOp, Op.intBits])
 case xor => exact mk _ h _ (.int _ _) (by simp [binOp, Op.intBits])
 case andNot => exact mk _ h _ (.int _ _) (by simp [binOp, Op.intBits])
 case eql => exact mk _ h _ (.bool _) (by simp [binOp, Op.intCmp])
 case neq => exact mk _ h _ (.bool _) (by simp [binOp, Op.intCmp])
 case lss => exact mk _ h _ (.bool _) (by simp [binOp, Op.intCmp])
 case leq => exact mk _ h _ (.bool _) (by simp [binOp, Op.intCmp])
 case gtr => exact mk _ h _ (.bool _) (by simp [binOp, Op.intCmp])
 case geq => exact mk _ h _ (.bool _) (by simp [binOp, Op.intCmp])
 all_goals exact h.elim

theorem bytes_mk_append (a b : List UInt8) : (ByteArray.mk a.toArray) ++ (ByteArray.mk b.toArray) = ByteArray.mk (a ++ b).toArray := by
 apply ByteArray.ext
 simp [ByteArray.data_append]

theorem bytes_toList (a : List UInt8) : (ByteArray.mk a.toArray).toList = a := by
 simp [ByteArray.toList_eq]

theorem bytes_size (a : List UInt8) : (ByteArray.mk a.toArray).size = a.length := by
 simp [ByteArray.size]

theorem strBin_sound {op : BinOp} {a b : List UInt8} {K : TV → St → Prop} (h : strBin op a b fun v => K (.v v) s)
  (hi : Inv Mine G s.hp s.T w) (t : TypeId) : Res Mine G s w ((binOp op t (.string ⟨a.toArray⟩) (.string ⟨b.toArray⟩)).run P w) K := by
 have mk : ∀ v, K (.v v) s → ∀ y, VR G v y → (binOp op t (.string ⟨a.toArray⟩) (.string ⟨b.toArray⟩)).run P w = .ok y w →
   Res Mine G s w ((binOp op t (.string ⟨a.toArray⟩) (.string ⟨b.toArray⟩)).run P w) K :=
  fun v hk y hv hr => Res.same hi hr hk (.v _ _ hv)
 cases op <;> simp only [strBin] at h
 case add =>
  refine mk _ h.2 _ (.str _) ?_
  have := h.1
  have h' : ¬ (((a.length + b.length : Nat) : Int) > IntKind.i64.max) := by omega
  simp only [binOp, Op.stringOp, bytes_size, if_neg h', Sem.run_pure, bytes_mk_append]
 case eql => exact mk _ h _ (.bool _) (by simp [binOp, Op.stringOp, bytes_toList])
 case neq => exact mk _ h _ (.bool _) (by simp [binOp, Op.stringOp, bytes_toList])
 case lss => exact mk _ h _ (.bool _) (by simp [binOp, Op.stringOp, bytes_toList, bytesLess])
 case leq => exact mk _ h _ (.bool _) (by simp [binOp, Op.stringOp, bytes_toList, bytesLess])
 case gtr => exact mk _ h _ (.bool _) (by simp [binOp, Op.stringOp, bytes_toList, bytesLess])
 case geq => exact mk _ h _ (.bool _) (by simp [binOp, Op.stringOp, bytes_toList, bytesLess])
 all_goals exact h.elim

end
end Go.Proofs.YtdcljlafookliaaDoor.AB

namespace Go.Proofs.YtdcljlafookliaaDoor.AB
open Go

section
variable {P : Program} {tt : TT} {Mine : Mn} {G : Gh} {s : St} {a : Act} {w : World}

theorem run_eqGuard {op : BinOp} {t : TypeId} {x y : Operand} {u v : Value} (h1 : (Region.isConst x || Region.isConst y) = true ∨ ¬ (u = .nilIface ∧ v = .nilIface))
    (h2 : ∀ a b, u = .agg a → v = .agg b → False) : (eqGuard op t x y u v).run P w = .ok () w := by
  have fin : u = .nilIface → v = .nilIface → (Region.isConst x || Region.isConst y) = true := by
    intro e1 e2
    rcases h1 with h1 | h1
    · exact h1
    · exact absurd ⟨e1, e2⟩ h1
  clear h1
  cases op <;> first
    | rfl
    | (cases u <;> cases v <;> first
        | rfl
        | exact (h2 _ _ rfl rfl).elim
        | (have := fin rfl rfl
           unfold eqGuard
           cases x <;> cases y <;> simp_all [Region.isConst]))

theorem eq9 {t : TypeId} {u v : Value} {r : Result Bool} (h : ∀ d, (Op.equalIn (d + 1) t u v).run P w = r) : (Op.equal t u v).run P w = r := h 9999

theorem eq_ptr {t e : TypeId} (hu : P.underlying t = some (.pointer e)) (x y : Option Addr) (hn : x = none ∨ y = none) :
    (Op.equal t (.pointer x) (.pointer y)).run P w = .ok (x.isNone && y.isNone) w := by
  refine eq9 (fun d => ?_)
  have hu := run_underlying (P := P) hu w
  rcases hn with rfl | rfl
  · simp only [Op.equalIn, Sem.run_bind, hu, Result.andThen_ok]
    cases y <;> rfl
  · cases x <;> (simp only [Op.equalIn, Sem.run_bind, hu, Result.andThen_ok]; rfl)

theorem eq_map {t k e : TypeId} (hu : P.underlying t = some (.map k e)) (x y : Option Nat) (hn : x = none ∨ y = none) :
    (Op.equal t (.map x) (.map y)).run P w = .ok (x.isNone && y.isNone) w := by
  refine eq9 (fun d => ?_)
  have hu := run_underlying (P := P) hu w
  rcases hn with rfl | rfl
  · simp only [Op.equalIn, Sem.run_bind, hu, Result.andThen_ok]
    cases y <;> rfl
  · cases x <;> (simp only [Op.equalIn, Sem.run_bind, hu, Result.andThen_ok]; rfl)

def fnil : Value → Option Bool
  | .nilFunc => some true
  | .func _ _ _ => some false
  | _ => none

theorem eq_func {t : TypeId} {p r : Array TypeId} {va : Bool} (hu : P.underlying t = some (.func p r va)) {u v : Value} {x y : Bool} (h1 : fnil u = some x) (h2 : fnil v = some y) (hn : (x || y) = true) :
    (Op.equal t u v).run P w = .ok (x && y) w := by
  refine eq9 (fun d => ?_)
  have hu := run_underlying (P := P) hu w
  unfold fnil at h1 h2
  split at h1
  all_goals first | (cases h1; done) | skip
  all_goals (
    split at h2
    all_goals first | (cases h2; done) | skip)
  all_goals (cases h1; cases h2; first | (cases hn; done) | skip)
  all_goals (simp only [Op.equalIn, Sem.run_bind, hu, Result.andThen_ok]; rfl)

def inil : Value → Option Bool
  | .nilIface => some true
  | .iface _ _ => some false
  | _ => none

theorem eq_iface {t : TypeId} {m : Array (String × TypeId)} (hu : P.underlying t = some (.interface m)) {u v : Value} {x y : Bool} (h1 : inil u = some x) (h2 : inil v = some y) (hn : (x || y) = true) :
    (Op.equal t u v).run P w = .ok (x && y) w := by
  refine eq9 (fun d => ?_)
  have hu := run_underlying (P := P) hu w
  unfold inil at h1 h2
  split at h1
  all_goals first | (cases h1; done) | skip
  all_goals (
    split at h2
    all_goals first | (cases h2; done) | skip)
  all_goals (cases h1; cases h2; first | (cases hn; done) | skip)
  all_goals (simp only [Op.equalIn, Sem.run_bind, hu, Result.andThen_ok]; rfl)

def plainEq : Value → Bool
  | .pointer _ | .map _ | .func _ _ _ | .nilFunc | .iface _ _ | .nilIface | .bool _ => true
  | _ => false

theorem run_binOp_eql {t : TypeId} {u v : Value} (h : plainEq u = true) {b : Bool} (hr : (Op.equal t u v).run P w = .ok b w) :
    (binOp .eql t u v).run P w = .ok (.bool b) w ∧ (binOp .neq t u v).run P w = .ok (.bool (!b)) w := by
  cases u <;> first | (cases h; done) | (cases v <;> exact ⟨by simp [binOp, hr], by simp [binOp, hr]⟩)

theorem nilK_run (htt : TTOK P tt) {t : Nat} (hok : (tt.at t).ok = true) {x y : TV} {u v : Value} {p q : Bool} (h1 : nilK (tt.at t).k x = some p) (h2 : nilK (tt.at t).k y = some q)
    (hpq : (p || q) = true) (hx : TR G x u) (hy : TR G y v) : (Op.equal t u v).run P w = .ok (p && q) w ∧ plainEq u = true := by
  obtain ⟨d, hd, hk⟩ := (htt t hok).und
  have side : ∀ {x : TV} {u : Value} {p : Bool}, nilK (tt.at t).k x = some p → TR G x u →
      (∃ e, d = .pointer e ∧ ∃ o : Option Addr, u = .pointer o ∧ p = o.isNone) ∨ (∃ k e, d = .map k e ∧ ∃ o : Option Nat, u = .map o ∧ p = o.isNone) ∨
      (∃ a b c, d = .func a b c ∧ fnil u = some p) ∨ (∃ m, d = .interface m ∧ inil u = some p) := by
    intro x u p h1 hx
    unfold nilK at h1
    split at h1
    all_goals first | (cases h1; done) | skip
    all_goals (
      rename_i hkk
      rw [hkk] at hk
      simp only [KOK] at hk
      cases h1)
    · cases hx with | v _ _ hx => cases hx; exact .inl ⟨_, hk, none, rfl, rfl⟩
    · cases hx with | v _ _ hx => cases hx; exact .inl ⟨_, hk, some _, rfl, rfl⟩
    · cases hx; exact .inl ⟨_, hk, some _, rfl, rfl⟩
    · cases hx with | v _ _ hx => cases hx; exact .inr (.inl ⟨_, _, hk.1, none, rfl, rfl⟩)
    · cases hx with | v _ _ hx => cases hx; exact .inr (.inl ⟨_, _, hk.1, some _, rfl, rfl⟩)
    · cases hx; exact .inr (.inl ⟨_, _, hk.1, some _, rfl, rfl⟩)
    · obtain ⟨a, b, c, hk⟩ := hk
      cases hx with | v _ _ hx => cases hx; exact .inr (.inr (.inl ⟨a, b, c, hk, rfl⟩))
    · obtain ⟨a, b, c, hk⟩ := hk
      cases hx with | v _ _ hx => cases hx; exact .inr (.inr (.inl ⟨a, b, c, hk, rfl⟩))
    · obtain ⟨a, b, c, hk⟩ := hk
      cases hx; exact .inr (.inr (.inl ⟨a, b, c, hk, rfl⟩))
    · obtain ⟨m, hk⟩ := hk
      cases hx with | v _ _ hx => cases hx; exact .inr (.inr (.inr ⟨m, hk, rfl⟩))
    · obtain ⟨m, hk⟩ := hk
      cases hx with | v _ _ hx => cases hx; exact .inr (.inr (.inr ⟨m, hk, rfl⟩))
  rcases side h1 hx with ⟨e, rfl, o, rfl, rfl⟩ | ⟨k, e, rfl, o, rfl, rfl⟩ | ⟨a, b, c, rfl, hf⟩ | ⟨m, rfl, hf⟩
  · rcases side h2 hy with ⟨e', h, o', rfl, rfl⟩ | ⟨k, e, h, _⟩ | ⟨a, b, c, h, _⟩ | ⟨m, h, _⟩ <;> first | (cases h; done) | skip
    refine ⟨eq_ptr hd o o' ?_, rfl⟩
    cases o <;> cases o' <;> simp_all
  · rcases side h2 hy with ⟨e', h, _⟩ | ⟨k', e', h, o', rfl, rfl⟩ | ⟨a, b, c, h, _⟩ | ⟨m, h, _⟩ <;> first | (cases h; done) | skip
    refine ⟨eq_map hd o o' ?_, rfl⟩
    cases o <;> cases o' <;> simp_all
  · rcases side h2 hy with ⟨e', h, _⟩ | ⟨k', e', h, _⟩ | ⟨a', b', c', h, hf'⟩ | ⟨m, h, _⟩ <;> first | (cases h; done) | skip
    refine ⟨eq_func hd hf hf' hpq, ?_⟩
    cases u <;> first | rfl | cases hf
  · rcases side h2 hy with ⟨e', h, _⟩ | ⟨k', e', h, _⟩ | ⟨a', b', c', h, _⟩ | ⟨m', h, hf'⟩ <;> first | (cases h; done) | skip
    refine ⟨eq_iface hd hf hf' hpq, ?_⟩
    cases u <;> first | rfl | cases hf

theorem eq_slice {t e : TypeId} (hu : P.underlying t = some (.slice e)) (x : Option Addr) (n k : Nat) :
    (Op.equal t (.slice x n k) (.slice none 0 0)).run P w = .ok x.isNone w := by
  refine eq9 (fun d => ?_)
  have hu := run_underlying (P := P) hu w
  cases x <;> (simp only [Op.equalIn, Sem.run_bind, hu, Result.andThen_ok]; rfl)

theorem nilEq_sound (htt : TTOK P tt) {t : TypeId} {op : BinOp} {x y : TV} {u v : Value} {xo yo : Operand} {K : TV → St → Prop}
    (h : nilEqK tt op t x y s K) (hi : Inv Mine G s.hp s.T w) (hx : TR G x u) (hy : TR G y v) :
    Res Mine G s w ((do eqGuard op t xo yo u v; binOp op t u v : Sem Value).run P w) K := by
  unfold nilEqK at h
  split at h
  case h_2 => exact h.elim
  rename_i e c l tk hok hk
  obtain ⟨d, hd, hk'⟩ := (htt t hok).und
  rw [hk] at hk'; simp only [KOK] at hk'; subst hk'
  cases hy with | v _ _ hy =>
  cases hy
  cases hx with | v _ _ hx =>
  cases hx with | list _ _ _ a cap b o vals ha hcap hc ho hv ht =>
  rw [Sem.run_bind, run_eqGuard (.inr (fun e => by cases e.1)) (fun _ _ e => by cases e), Result.andThen_ok]
  have he := eq_slice (w := w) hd a l.length cap
  have hl : a.isNone = true → l = [] := by
    intro e
    cases l with
    | nil => rfl
    | cons z r => have := ha (by simp); rw [this] at e; cases e
  split at h
  · exact Res.same hi (by simp [binOp, he]) (h _ hl) (.v _ _ (.bool _))
  · exact Res.same hi (by simp [binOp, he]) (h _ hl) (.v _ _ (.bool _))
  · exact h.elim

theorem bin_sound (htt : TTOK P tt) {t : TypeId} {op : BinOp} {x y : TV} {u v : Value} {xo yo : Operand} {K : TV → St → Prop}
    (h : binK (tt.at t).ok (tt.at t).k (Region.isConst xo || Region.isConst yo) op x y s K)
    (hi : Inv Mine G s.hp s.T w) (hx : TR G x u) (hy : TR G y v) : Res Mine G s w ((do eqGuard op t xo yo u v; binOp op t u v : Sem Value).run P w) K := by
  have guard : ∀ {u v : Value}, ((Region.isConst xo || Region.isConst yo) = true ∨ ¬ (u = .nilIface ∧ v = .nilIface)) → (∀ a b, u = .agg a → v = .agg b → False) →
      Res Mine G s w ((binOp op t u v).run P w) K → Res Mine G s w ((do eqGuard op t xo yo u v; binOp op t u v : Sem Value).run P w) K := by
    intro u v h1 h2 h3
    rw [Sem.run_bind, run_eqGuard h1 h2, Result.andThen_ok]
    exact h3
  unfold binK at h
  split at h
  · rename_i k a k' b
    cases hx with | v _ _ hx => cases hx with | int =>
    cases hy with | v _ _ hy => cases hy with | int =>
    refine guard (.inr (fun e => by cases e.1)) (fun _ _ e => by cases e) ?_
    split at h
    · exact Res.same hi (by simp [binOp, Op.shift, show ¬ b < 0 by omega]) h.2 (.v _ _ (.int _ _))
    · exact Res.same hi (by simp [binOp, Op.shift, show ¬ b < 0 by omega]) h.2 (.v _ _ (.int _ _))
    · rename_i h1 h2
      split at h
      · rename_i hkk
        have hkk := of_decide_eq_true hkk
        subst hkk
        exact intBin_sound h (fun e => h1 e) (fun e => h2 e) hi t
      · exact h.elim
  · rename_i a b
    cases hx with | v _ _ hx => cases hx with | str =>
    cases hy with | v _ _ hy => cases hy with | str =>
    refine guard (.inr (fun e => by cases e.1)) (fun _ _ e => by cases e) ?_
    exact strBin_sound h hi t
  · split at h
    · rename_i p q hok hc hp hq
      have fin : (p || q) = true → Res Mine G s w ((binOp op t u v).run P w) K → Res Mine G s w ((do eqGuard op t xo yo u v; binOp op t u v : Sem Value).run P w) K := by
        intro hpq h3
        refine guard (.inl hc) (fun a b e1 e2 => ?_) h3
        obtain ⟨_, hpl⟩ := nilK_run (w := w) htt hok hp hq hpq hx hy
        subst e1; cases hpl
      split at h
      · rename_i hpq
        obtain ⟨h1, h2⟩ := nilK_run (w := w) htt hok hp hq hpq hx hy
        refine fin hpq (Res.same hi (run_binOp_eql h2 h1).1 h ?_)
        cases p <;> cases q <;> first | exact .v _ _ .tt | exact .v _ _ .ff
      · rename_i hpq
        obtain ⟨h1, h2⟩ := nilK_run (w := w) htt hok hp hq hpq hx hy
        refine fin hpq (Res.same hi (run_binOp_eql h2 h1).2 h ?_)
        cases p <;> cases q <;> first | exact .v _ _ .tt | exact .v _ _ .ff
      · exact h.elim
    · split at h
      · rename_i a b hok hb ha hb'
        have e1 := boolOf_R ha hx
        have e2 := boolOf_R hb' hy
        subst e1 e2
        have hbk : (tt.at t).k = .bool := by
          cases hkk : (tt.at t).k <;> rw [hkk] at hb <;> first | rfl | cases hb
        obtain ⟨d, hd, hk⟩ := (htt t hok).und
        rw [hbk] at hk
        simp only [KOK] at hk
        subst hk
        have hr : (Op.equal t (.bool a) (.bool b)).run P w = .ok (a == b) w := by
          refine eq9 (fun d => ?_)
          simp only [Op.equalIn, Sem.run_bind, run_underlying hd, Result.andThen_ok]
          rfl
        refine guard (.inr (fun e => by cases e.1)) (fun _ _ e => by cases e) ?_
        split at h
        · exact Res.same hi (run_binOp_eql rfl hr).1 h (.v _ _ (.bool _))
        · exact Res.same hi (run_binOp_eql rfl hr).2 h (.v _ _ (.bool _))
        · exact h.elim
      · exact h.elim

end
end Go.Proofs.YtdcljlafookliaaDoor.AB

namespace Go.Proofs.YtdcljlafookliaaDoor.AB
open Go

section
variable {P : Program} {tt : TT} {Mine : Mn} {G : Gh} {s : St} {a : Act} {w : World}

theorem un_sound {op : UnOp} {x : TV} {u : Value} {K : TV → St → Prop} (h : unK op x s K) (hi : Inv Mine G s.hp s.T w) (hx : TR G x u) :
  Res Mine G s w ((Op.unary op u).run P w) K := by
 unfold unK at h
 split at h
 ·cases hx with | v _ _ hx => cases hx; exact Res.same hi (by simp [Op.unary, Op.intArith]) h (.v _ _ (.int _ _))
 ·cases hx with | v _ _ hx => cases hx; exact Res.same hi (by simp [Op.unary, Op.intBits]) h (.v _ _ (.int _ _))
 ·cases hx with | v _ _ hx => cases hx; exact Res.same hi (by simp [Op.unary]) h (.v _ _ .ff)
 ·cases hx with | v _ _ hx => cases hx; exact Res.same hi (by simp [Op.unary]) h (.v _ _ .tt)
 ·cases hx with | v _ _ hx => cases hx; exact Res.same hi (by simp [Op.unary]) h (.v _ _ (.bool _))
 ·exact h.elim

def notNil : Value → Bool
 | .pointer none | .nilIface | .nilFunc => false
 | .func (.method _) _ _ => false
 | _ => true

theorem nilCheck_val {x : TV} {u : Value} (h : nilOf x = some false) (hx : TR G x u) : notNil u = true := by
 unfold nilOf at h
 split at h
 all_goals first | (cases h; done) | skip
 all_goals (cases hx <;> first | rfl | (rename_i hx; cases hx <;> rfl))

theorem extract_sound {x : TV} {u : Value} {i : Nat} {K : TV → St → Prop} (h : extractK x i s K) (hi : Inv Mine G s.hp s.T w) (hx : TR G x u) :
  Res Mine G s w ((Instr.extract u i).run P w) K := by
 unfold extractK at h
 split at h
 ·split at h
  ·rename_i l y hy
   cases hx with | v _ _ hx => cases hx with | tup _ vs hl hp =>
   have hlt : i < vs.length := by rw [← hl]; exact (List.getElem?_eq_some_iff.1 hy).1
   have hv : vs[i]? = some vs[i] := List.getElem?_eq_getElem hlt
   exact Res.same hi (y := vs[i]) (by simp [Instr.extract, hlt]) h (.v _ _ (hp i y _ hy hv))
  ·exact h.elim
 ·split at h
  ·rename_i l y hy
   cases hx with | tup _ vs hl hp =>
   have hlt : i < vs.length := by rw [← hl]; exact (List.getElem?_eq_some_iff.1 hy).1
   have hv : vs[i]? = some vs[i] := List.getElem?_eq_getElem hlt
   exact Res.same hi (y := vs[i]) (by simp [Instr.extract, hlt]) h (hp i y _ hy hv)
  ·exact h.elim
 ·exact h.elim

theorem strct_und (htt : TTOK P tt) {t : Nat} (hok : (tt.at t).ok = true) {fs : List (Nat × Nat)} (hk : (tt.at t).k = .strct fs) :
  ∃ fields, P.underlying t = some (.struct fields) ∧ ∀ (i : Nat) off ft, fs[i]? = some (off, ft) → ∃ f, fields[i]? = some f ∧ f.offset = off ∧ f.type = ft ∧ (tt.at ft).ok = true := by
 obtain ⟨d, hd, h⟩ := (htt t hok).und
 rw [hk] at h
 obtain ⟨fields, rfl, _, hf⟩ := h
 exact ⟨fields, hd, hf⟩

theorem fieldAddr_sound (htt : TTOK P tt) {t : Nat} (hok : (tt.at t).ok = true) {x : TV} {u : Value} {f : Nat} {K : TV → St → Prop} (h : fieldAddrK tt t x f s K)
  (hi : Inv Mine G s.hp s.T w) (hx : TR G x u) : Res Mine G s w ((Instr.fieldAt t u f).run P w) K := by
 unfold fieldAddrK at h
 split at h
 case h_2 => exact h.elim
 rename_i fs hk
 obtain ⟨fields, hd, hf⟩ := strct_und htt hok hk
 split at h
 case h_2 => exact h.elim
 rename_i off ft hft
 obtain ⟨fd, h1, h2, h3, h4⟩ := hf f off ft hft
 have run : ∀ (b o : Nat), 1 ≤ (tt.at ft).size → (Instr.fieldAt t (.pointer (some ⟨b, o, none⟩)) f).run P w = .ok (.pointer (some ⟨b, o + off, none⟩)) w := by
  intro b o hs
  have hz : ¬ ((tt.at ft).size = 0) := by omega
  have hsz := run_sizeOf htt h4 w
  rw [← h3] at hsz
  rw [← h3] at hz
  simp only [Instr.fieldAt, Sem.run_bind, run_underlying hd, Result.andThen_ok, h1, Instr.sureAddr, Sem.run_pure, fieldPlace, hsz, if_neg hz, h2, addr_add]
 split at h
 ·rename_i y o hs
  cases hx with | v _ _ hx => cases hx with | fptr _ _ b o' vals hc ho hv =>
  refine Res.same hi (run _ _ (Nat.le_of_ble_eq_true hs)) h ?_
  rw [Nat.add_assoc]
  exact .v _ _ (.fptr y (o + off) b o' vals hc ho hv)
 ·rename_i i g e o hs
  cases hx with | ptr _ _ _ _ b sz ct hloc =>
  refine Res.same hi (run _ _ (Nat.le_of_ble_eq_true hs)) h ?_
  rw [Nat.add_assoc]
  exact .ptr i g e (o + off) b sz ct hloc
 ·exact h.elim

theorem run_part (htt : TTOK P tt) {t : Nat} (hok : (tt.at t).ok = true) (vs : List Value) (off : Nat) (hs : off + (tt.at t).size ≤ vs.length)
  (h1 : (tt.at t).k.isAgg = false → (tt.at t).size = 1) :
  (part t vs.toArray off).run P w = .ok (if (tt.at t).k.isAgg then .agg ((vs.drop off).take (tt.at t).size).toArray else vs.getD off Go.undef) w := by
 simp only [part, Sem.run_bind, run_isAgg htt hok, Result.andThen_ok]
 cases ha : (tt.at t).k.isAgg with
 | true =>
  simp only [if_true, Sem.run_bind, run_sizeOf htt hok, Result.andThen_ok, Sem.run_pure]
  congr 3
  apply Array.ext'
  simp [List.extract_eq_take_drop]
 | false =>
  have := h1 ha
  have hlt : off < vs.length := by omega
  simp [hlt, List.getD]

theorem field_sound (htt : TTOK P tt) {t : Nat} (hok : (tt.at t).ok = true) {x : TV} {u : Value} {f : Nat} {K : TV → St → Prop} (h : fieldK tt t x f s K)
  (hi : Inv Mine G s.hp s.T w) (hx : TR G x u) : Res Mine G s w ((Instr.field t u f).run P w) K := by
 unfold fieldK at h
 split at h
 case h_2 => exact h.elim
 rename_i fs hk
 obtain ⟨fields, hd, hf⟩ := strct_und htt hok hk
 split at h
 case h_2 => exact h.elim
 rename_i off ft hft
 obtain ⟨fd, h1, h2, h3, h4⟩ := hf f off ft hft
 have run : ∀ (vs : List Value), off + (tt.at ft).size ≤ vs.length → ((tt.at ft).k.isAgg = false → (tt.at ft).size = 1) →
   (Instr.field t (.agg vs.toArray) f).run P w = .ok (if (tt.at ft).k.isAgg then .agg ((vs.drop off).take (tt.at ft).size).toArray else vs.getD off Go.undef) w := by
  intro vs hs h1'
  simp only [Instr.field, Sem.run_bind, run_underlying hd, Result.andThen_ok, h1, asAgg, Sem.run_pure, h3, h2]
  exact run_part htt h4 vs off hs h1'
 split at h
 ·rename_i l
  split at h
  case h_2 => exact h.elim
  rename_i y hy
  cases hx with | v _ _ hx => cases hx with | agg _ vs hl ho hp =>
  unfold subV at hy
  split at hy
  case h_2 => cases hy
  rename_i hle
  have hle : off + (tt.at ft).size ≤ l.length := Nat.le_of_ble_eq_true hle
  refine Res.same hi (run vs (by omega) (fun ha => by
   rw [ha] at hy; dsimp only at hy; split at hy
   ·assumption
   ·cases hy)) h ?_
  cases ha : (tt.at ft).k.isAgg with
  | true =>
   rw [ha] at hy
   cases hy
   simp only [if_true]
   refine .v _ _ (.agg _ _ (by simp [V.cells]; omega) (fun y hy => ho y (List.mem_of_mem_drop (List.mem_of_mem_take hy))) (fun i p q hp' hq => ?_))
   simp only [V.cells, List.getElem?_take, List.getElem?_drop] at hp' hq
   split at hp'
   ·rename_i hi'
    rw [if_pos hi'] at hq
    exact hp _ p q hp' hq
   ·cases hp'
  | false =>
   rw [ha] at hy
   dsimp only at hy
   split at hy
   ·cases hy
    simp only [Bool.false_eq_true, if_false]
    have h1 : off < l.length := by omega
    have h2 : off < vs.length := by omega
    simp only [V.cells, List.getD, List.getElem?_eq_getElem h1, List.getElem?_eq_getElem h2, Option.getD_some]
    exact .v _ _ (hp off _ _ (List.getElem?_eq_getElem h1) (List.getElem?_eq_getElem h2))
   ·cases hy
 ·rename_i l
  split at h
  case h_2 => exact h.elim
  rename_i y hy
  cases hx with | agg _ vs hl ho hp =>
  unfold subTV at hy
  split at hy
  case h_2 => cases hy
  rename_i hle
  have hle : off + (tt.at ft).size ≤ l.length := Nat.le_of_ble_eq_true hle
  refine Res.same hi (run vs (by omega) (fun ha => by
   rw [ha] at hy; dsimp only at hy; split at hy
   ·assumption
   ·cases hy)) h ?_
  cases ha : (tt.at ft).k.isAgg with
  | true =>
   rw [ha] at hy
   cases hy
   simp only [if_true]
   refine TR.mkAgg (by simp [TV.cells]; omega) (fun y hy => ho y (List.mem_of_mem_drop (List.mem_of_mem_take hy))) (fun i p q hp' hq => ?_)
   simp only [TV.cells, List.getElem?_take, List.getElem?_drop] at hp' hq
   split at hp'
   ·rename_i hi'
    rw [if_pos hi'] at hq
    exact hp _ p q hp' hq
   ·cases hp'
  | false =>
   rw [ha] at hy
   dsimp only at hy
   split at hy
   ·cases hy
    simp only [Bool.false_eq_true, if_false]
    have h1 : off < l.length := by omega
    have h2 : off < vs.length := by omega
    simp only [TV.cells, List.getD, List.getElem?_eq_getElem h1, List.getElem?_eq_getElem h2, Option.getD_some]
    exact hp off _ _ (List.getElem?_eq_getElem h1) (List.getElem?_eq_getElem h2)
   ·cases hy
 ·exact h.elim

theorem length_flat (c : Cd) (l : List c.T) : (l.flatMap c.cells).length = l.length * c.sz := by
 induction l with
 | nil => simp
 | cons x l ih => simp only [List.flatMap_cons, List.length_append, Cd.length_cells, ih, List.length_cons, Nat.succ_mul]; omega

theorem flat_get (c : Cd) (l : List c.T) {i : Nat} {x : c.T} (hx : l[i]? = some x) {j : Nat} {q : V} (hq : (c.cells x)[j]? = some q) :
  (l.flatMap c.cells)[i * c.sz + j]? = some q := by
 induction l generalizing i with
 | nil => simp at hx
 | cons y l ih =>
  have hj : j < c.sz := by rw [← Cd.length_cells c x]; exact (List.getElem?_eq_some_iff.1 hq).1
  simp only [List.flatMap_cons, List.getElem?_append, Cd.length_cells]
  match i with
  | 0 =>
   simp at hx; subst hx
   rw [Nat.zero_mul, Nat.zero_add, if_pos hj]; exact hq
  | i + 1 =>
   simp at hx
   rw [Nat.succ_mul, if_neg (by omega)]
   rw [show i * c.sz + c.sz + j - c.sz = i * c.sz + j by omega]
   exact ih hx

theorem flat_drop (c : Cd) (l : List c.T) (k : Nat) : ∀ j : Nat, ((l.drop k).flatMap c.cells)[j]? = (l.flatMap c.cells)[k * c.sz + j]? := by
 induction k generalizing l with
 | zero => intro j; simp
 | succ k ih =>
  intro j
  cases l with
  | nil => simp
  | cons x l =>
   simp only [List.drop_succ_cons, ih, List.flatMap_cons, List.getElem?_append, Cd.length_cells]
   rw [Nat.succ_mul, if_neg (by omega)]
   congr 1; omega

theorem flat_take (c : Cd) (l : List c.T) (k : Nat) : ∀ (j : Nat) q, ((l.take k).flatMap c.cells)[j]? = some q → (l.flatMap c.cells)[j]? = some q := by
 intro j q h
 have e : l.flatMap c.cells = (l.take k).flatMap c.cells ++ (l.drop k).flatMap c.cells := by
  rw [← List.flatMap_append, List.take_append_drop]
 rw [e, List.getElem?_append_left (List.getElem?_eq_some_iff.1 h).1]; exact h

theorem flat_split (c : Cd) (l : List c.T) {k : Nat} {q : V} (hq : (l.flatMap c.cells)[k]? = some q) : ∃ i j x, k = i * c.sz + j ∧ j < c.sz ∧ l[i]? = some x ∧ (c.cells x)[j]? = some q := by
 have hlt : k < l.length * c.sz := by
  have := (List.getElem?_eq_some_iff.1 hq).1
  rwa [length_flat] at this
 have hsz : 0 < c.sz := by
  rcases Nat.eq_zero_or_pos c.sz with h0 | h0
  ·rw [h0] at hlt; omega
  ·exact h0
 have he : k / c.sz < l.length := (Nat.div_lt_iff_lt_mul hsz).2 hlt
 refine ⟨k / c.sz, k % c.sz, l[k / c.sz], ?_, Nat.mod_lt _ hsz, List.getElem?_eq_getElem he, ?_⟩
 ·rw [Nat.mul_comm, Nat.div_add_mod]
 ·have h1 := flat_drop c l (k / c.sz) (k % c.sz)
  rw [Nat.mul_comm (k / c.sz), Nat.div_add_mod, hq] at h1
  rw [List.drop_eq_getElem_cons he, List.flatMap_cons, List.getElem?_append_left (by rw [Cd.length_cells]; exact Nat.mod_lt _ hsz)] at h1
  exact h1

theorem indexAddr_sound (htt : TTOK P tt) {t : Nat} (hok : (tt.at t).ok = true) {x ix : TV} {u v : Value} {K : TV → St → Prop} (h : indexAddrK tt t x ix s K)
  (hi : Inv Mine G s.hp s.T w) (hx : TR G x u) (hv : TR G ix v) : Res Mine G s w ((Instr.indexAt t u v).run P w) K := by
 unfold indexAddrK at h
 split at h
 ·rename_i i n kk k
  unfold bslK at h
  split at h
  case h_2 => exact h.elim
  rename_i e hokt hkt
  split at h
  case h_2 => exact h.elim
  rename_i j hoke hsz
  split at h
  case h_2 => exact h.elim
  rename_i hlt
  rw [Nat.blt_eq] at hlt
  have hsz := Nat.eq_of_beq_eq_true hsz
  obtain ⟨d, hd, hk⟩ := (htt t hok).und
  rw [hkt] at hk
  simp only [KOK] at hk
  subst hk
  cases hv with | v _ _ hv => cases hv with | int =>
  cases hx with
  | bsl _ _ b sz ct hloc =>
   have hr : (Instr.indexAt t (.slice (some ⟨b, 0, none⟩) n n) (.int kk (Int.ofNat j))).run P w = .ok (.pointer (some ⟨b, 0 + j * 1, none⟩)) w := by
    have hin : 0 ≤ Int.ofNat j ∧ Int.ofNat j < n := ⟨Int.natCast_nonneg j, Int.ofNat_lt.2 hlt⟩
    have hto : (Int.ofNat j).toNat = j := rfl
    rw [← hsz]
    simp only [Instr.indexAt, asIntOf, Sem.run_bind, Sem.run_pure, Result.andThen_ok, run_underlying hd, if_pos hin, run_sizeOf htt hoke, addr_add, hto]
   refine Res.same hi hr h ?_
   have := TR.ptr (G := G) i 0 0 j b sz ct hloc
   simpa using this
 ·rename_i e c l tk k i he
  split at h
  case h_2 => exact h.elim
  rename_i hc
  have hc := of_decide_eq_true hc
  obtain ⟨h0, h1, h⟩ := h
  obtain ⟨hd, hok1, hok2, hcok⟩ := sliceElem_ok htt he
  obtain ⟨hsz, hpos, hbpos⟩ := (htt e hok2).cok hcok
  cases hv with | v _ _ hv => cases hv with | int =>
  cases hx with | v _ _ hx => cases hx with | list _ _ _ a cap b o vals ha hcap hcc ho hvv ht =>
  have hlt : i.toNat < l.length := by omega
  have hne : l ≠ [] := by intro e; subst e; simp at hlt
  obtain rfl := ha hne
  have hr : (Instr.indexAt t (.slice (some ⟨b, o, none⟩) l.length cap) (.int k i)).run P w = .ok (.pointer (some ⟨b, o + i.toNat * c.sz, none⟩)) w := by
   have hcs : c.sz = (tt.at e).size := by rw [hc]; exact hsz
   rw [hcs]
   simp only [Instr.indexAt, asIntOf, Sem.run_bind, Sem.run_pure, Result.andThen_ok, run_underlying hd, if_pos (And.intro h0 h1), run_sizeOf htt hok2, addr_add]
  have hel : l[i.toNat]? = some (l.getD i.toNat c.dflt) := by simp [List.getD, hlt]
  have key : ∀ (j : Nat) y, (c.enc (l.getD i.toNat c.dflt)).cells[j]? = some y → (l.flatMap c.cells)[i.toNat * c.sz + j]? = some y := by
   intro j y hy
   rw [Cd.cells_enc] at hy
   exact flat_get c l hel hy
  refine Res.same hi hr h (.v _ _ (.fptr (c.enc (l.getD i.toNat c.dflt)) 0 b (o + i.toNat * c.sz) (fun j => vals (i.toNat * c.sz + j)) (fun j y hy => ?_) (fun j y hy => ?_) (fun j y hy => ?_)))
  ·rw [Nat.add_assoc]; exact hcc _ _ (key j y hy)
  ·exact ho _ _ (key j y hy)
  ·exact hvv _ _ (key j y hy)
 ·rename_i e j g off len k i he
  split at h
  case h_2 => exact h.elim
  rename_i g' c l ts hj
  split at h
  case h_2 => exact h.elim
  rename_i hc
  have hc := of_decide_eq_true hc
  obtain ⟨rfl, h0, h1, h⟩ := h
  obtain ⟨hd, hok1, hok2, hcok⟩ := sliceElem_ok htt he
  obtain ⟨hsz, hpos, hbpos⟩ := (htt e hok2).cok hcok
  cases hv with | v _ _ hv => cases hv with | int =>
  obtain ⟨bo, ct', hl1, _⟩ := hi.objs j _ (hp_get hj)
  cases hx with
  | arr _ _ _ _ b sz ct cap o hloc hl hcp hoo =>
   rw [hloc] at hl1; cases hl1
   have hr : (Instr.indexAt t (.slice (some ⟨b, o, none⟩) len cap) (.int k i)).run P w = .ok (.pointer (some ⟨b, o + i.toNat * c.sz, none⟩)) w := by
    have hcs : c.sz = (tt.at e).size := by rw [hc]; exact hsz
    rw [hcs]
    simp only [Instr.indexAt, asIntOf, Sem.run_bind, Sem.run_pure, Result.andThen_ok, run_underlying hd, if_pos (And.intro h0 h1), run_sizeOf htt hok2, addr_add]
   refine Res.same hi hr h ?_
   rw [hoo (by omega), ← Nat.add_mul]
   have := TR.ptr (G := G) j g (off + i.toNat) 0 b c.sz _ hloc
   simpa using this
  | arrNil => omega
 ·exact h.elim

end
end Go.Proofs.YtdcljlafookliaaDoor.AB

namespace Go.Proofs.YtdcljlafookliaaDoor.AB
open Go

section
variable {P : Program} {tt : TT} {Mine : Mn} {G : Gh} {s : St} {a : Act} {w : World}

theorem Res.run {r r' : Result Value} {K : TV → St → Prop} (h : Res Mine G s w r K) (e : r' = r) : Res Mine G s w r' K := e ▸ h

theorem len_sound (htt : TTOK P tt) {t : Nat} (hok : (tt.at t).ok = true) {x : TV} {u : Value} {ty : TypeId} {K : TV → St → Prop} (h : lenK (tt.at t).k x s K)
  (hi : Inv Mine G s.hp s.T w) (hx : TR G x u) : Res Mine G s w ((Builtin.len_ #[t] ty #[u]).run P w) K := by
 obtain ⟨d, hd, hk⟩ := (htt t hok).und
 have hu := run_underlying (P := P) hd w
 unfold lenK at h
 split at h
 ·rename_i e c l tk hkk
  rw [hkk] at hk; simp only [KOK] at hk; subst hk
  cases hx with | v _ _ hx =>
  cases hx
  exact Res.same hi (by simp [Builtin.len_, hu, goInt]) h (.v _ _ (.int _ _))
 ·rename_i l hkk
  rw [hkk] at hk; simp only [KOK] at hk; subst hk
  cases hx with | v _ _ hx =>
  cases hx
  exact Res.same hi (by simp [Builtin.len_, hu, goInt, bytes_size]) h (.v _ _ (.int _ _))
 ·rename_i a b kc vc es hkk
  rw [hkk] at hk; simp only [KOK] at hk; obtain ⟨rfl, _⟩ := hk
  cases hx with | v _ _ hx => cases hx with | fmap _ _ _ r ents hm hl _ _ =>
  obtain ⟨en, ck, h1, h2⟩ := hi.mps r ents hm
  have hg : (getObj r).run P w = .ok (.map en ck) w := by simp [getObj, Sem.run, h1]
  have hlen : en.size = es.length := by rw [hl, ← h2]; simp
  exact Res.same hi (y := .int .i64 es.length) (by simp [Builtin.len_, hu, hg, goInt, hlen]) h (.v _ _ (.int _ _))
 ·rename_i a b hkk
  rw [hkk] at hk; simp only [KOK] at hk; obtain ⟨rfl, _⟩ := hk
  cases hx with | v _ _ hx =>
  cases hx
  exact Res.same hi (by simp [Builtin.len_, hu, goInt]) h (.v _ _ (.int _ _))
 ·rename_i e i g off n hkk
  rw [hkk] at hk; simp only [KOK] at hk; subst hk
  cases hx with
  | arr => exact Res.same hi (by simp [Builtin.len_, hu, goInt]) h (.v _ _ (.int _ _))
  | arrNil => exact Res.same hi (by simp [Builtin.len_, hu, goInt]) h (.v _ _ (.int _ _))
 ·rename_i e i n hkk
  rw [hkk] at hk; simp only [KOK] at hk; subst hk
  cases hx with
  | bsl => exact Res.same hi (by simp [Builtin.len_, hu, goInt]) h (.v _ _ (.int _ _))
 ·rename_i a b i hkk
  rw [hkk] at hk; simp only [KOK] at hk; obtain ⟨rfl, _⟩ := hk
  split at h
  ·rename_i kc vc es hh
   cases hx with | mapr _ b sz ct hloc =>
   obtain ⟨b', s', c', h1, h2, h3, en, ck, h4, h5, h6⟩ := hi.objs i _ (hp_get hh)
   rw [hloc] at h1; cases h1
   have hg : (getObj b).run P w = .ok (.map en ck) w := by simp [getObj, Sem.run, h4]
   exact Res.same hi (y := .int .i64 es.length) (by simp [Builtin.len_, hu, hg, goInt, h5]) h (.v _ _ (.int _ _))
  ·exact h.elim
 ·rename_i n e p hkk
  rw [hkk] at hk; simp only [KOK] at hk; obtain ⟨rfl, _⟩ := hk
  exact Res.same hi (by simp [Builtin.len_, hu, goInt]) h (.v _ _ (.int _ _))
 ·exact h.elim

theorem getN_length {c : Cd} : ∀ (n : Nat) (l : List V) (xs : List c.T), getN c n l = some xs → xs.length = n
 | 0, l, xs, h => by simp only [getN, Option.some.injEq] at h; subst h; rfl
 | n + 1, l, xs, h => by
  simp only [getN] at h
  split at h
  case h_2 => cases h
  split at h
  case h_2 => cases h
  rename_i xs' hxs
  cases h
  simp [getN_length n _ xs' hxs]

theorem getN_spec {c : Cd} : ∀ (n : Nat) (l : List V) (xs : List c.T), getN c n l = some xs →
  n * c.sz ≤ l.length ∧ ∀ (j : Nat) q, (xs.flatMap c.cells)[j]? = some q → ∃ p, l[j]? = some p ∧ ∀ G u, VR G p u → VR G q u
 | 0, l, xs, h => by
  simp only [getN, Option.some.injEq] at h; subst h
  exact ⟨by simp, fun j q hq => by simp at hq⟩
 | n + 1, l, xs, h => by
  simp only [getN] at h
  split at h
  case h_2 => cases h
  rename_i x r hg
  split at h
  case h_2 => cases h
  rename_i xs' hxs
  cases h
  obtain ⟨k1, k2, k3⟩ := Cd.get_spec c l x r hg
  obtain ⟨i1, i2⟩ := getN_spec n r xs' hxs
  refine ⟨by rw [Nat.succ_mul]; omega, fun j q hq => ?_⟩
  simp only [List.flatMap_cons, List.getElem?_append, Cd.length_cells] at hq
  split at hq
  ·exact k3 j q hq
  ·rename_i hj
   obtain ⟨p, e1, e2⟩ := i2 _ q hq
   refine ⟨p, ?_, e2⟩
   rw [k2] at e1
   rw [← e1]
   congr 1
   omega

theorem enc_agg {c : Cd} (h : c.isAgg = true) (x : c.T) : c.enc x = .agg (c.cells x) := by
 cases c <;> first | rfl | cases h

theorem cells_one_enc {c : Cd} (h : c.isAgg = false) (x : c.T) : c.cells x = [c.enc x] := by
 cases c <;> first | rfl | cases h

theorem index_sound (htt : TTOK P tt) {t : Nat} (hok : (tt.at t).ok = true) {x ix : TV} {u v : Value} {K : TV → St → Prop} (h : indexK tt t x ix s K)
  (hi : Inv Mine G s.hp s.T w) (hx : TR G x u) (hv : TR G ix v) : Res Mine G s w ((Instr.index t u v).run P w) K := by
 obtain ⟨d, hd, hk⟩ := (htt t hok).und
 have hu := run_underlying (P := P) hd w
 unfold indexK at h
 split at h
 ·rename_i l k i hkk
  obtain ⟨h0, h1, h⟩ := h
  rw [hkk] at hk; simp only [KOK] at hk; subst hk
  cases hx with | v _ _ hx =>
  cases hx
  cases hv with | v _ _ hv =>
  cases hv
  have hlt : i.toNat < l.length := by omega
  have he : (ByteArray.mk l.toArray)[i.toNat]? = some (l.getD i.toNat 0) := by
   rw [getElem?_pos _ _ (by simpa [ByteArray.size] using hlt)]
   simp [List.getD, hlt]
   rfl
  exact Res.same hi (by simp [Instr.index, asIntOf, hu, h0, he]) h (.v _ _ (.int _ _))
 ·rename_i n e l k i hkk
  rw [hkk] at hk; simp only [KOK] at hk; obtain ⟨rfl, hok2⟩ := hk
  split at h
  case h_2 => exact h.elim
  rename_i xs hcok hagg hget
  obtain ⟨h0, h1, h⟩ := h
  obtain ⟨hsz, hpos, hbpos⟩ := (htt e hok2).cok hcok
  cases hv with | v _ _ hv =>
  cases hv
  cases hx with | v _ _ hx => cases hx with | agg _ vs hl ho hp =>
  obtain ⟨g1, g2⟩ := getN_spec n l xs hget
  have hin : i.toNat < n := by omega
  have hxl := getN_length n l xs hget
  have hel : xs[i.toNat]? = some (xs.getD i.toNat (tt.at e).code.dflt) := by
   have : i.toNat < xs.length := by omega
   simp [List.getD, this]
  have hle : i.toNat * (tt.at e).size + (tt.at e).size ≤ vs.length := by
   have h2 : (i.toNat + 1) * (tt.at e).size ≤ n * (tt.at e).size := Nat.mul_le_mul_right _ (by omega)
   rw [Nat.succ_mul] at h2
   rw [hsz] at g1
   omega
  have hc1 : (tt.at e).k.isAgg = false → (tt.at e).size = 1 := fun ha => by
   have : (tt.at e).code.isAgg = false := by simpa [ha] using hagg
   rw [← hsz]
   generalize (tt.at e).code = c at this
   cases c <;> first | rfl | cases this
  have hr : (Instr.index t (.agg vs.toArray) (.int k i)).run P w = .ok (if (tt.at e).k.isAgg then .agg ((vs.drop (i.toNat * (tt.at e).size)).take (tt.at e).size).toArray else vs.getD (i.toNat * (tt.at e).size) Go.undef) w := by
   simp only [Instr.index, asIntOf, Sem.run_bind, Sem.run_pure, Result.andThen_ok, hu, if_pos (And.intro h0 h1), run_sizeOf htt hok2]
   exact run_part htt hok2 vs _ hle hc1
  -- each cell of the element
  have cell : ∀ (j : Nat) q, ((tt.at e).code.cells (xs.getD i.toNat (tt.at e).code.dflt))[j]? = some q → ∃ u, vs[i.toNat * (tt.at e).size + j]? = some u ∧ VR G q u := by
   intro j q hq
   have := flat_get (tt.at e).code xs hel hq
   rw [hsz] at this
   obtain ⟨p, hp1, hp2⟩ := g2 _ q this
   obtain ⟨u, hu1⟩ : ∃ u, vs[i.toNat * (tt.at e).size + j]? = some u := by
    have := (List.getElem?_eq_some_iff.1 hp1).1
    exact ⟨_, List.getElem?_eq_getElem (by omega)⟩
   exact ⟨u, hu1, hp2 G u (hp _ p u hp1 hu1)⟩
  refine Res.same hi hr h ?_
  have hlen : ((tt.at e).code.cells (xs.getD i.toNat (tt.at e).code.dflt)).length = (tt.at e).size := by rw [Cd.length_cells, hsz]
  generalize xs.getD i.toNat (tt.at e).code.dflt = x at cell hlen
  cases ha : (tt.at e).k.isAgg with
  | true =>
   simp only [if_true]
   have hca : (tt.at e).code.isAgg = true := by simpa [ha] using hagg
   have henc : (tt.at e).code.enc x = .agg ((tt.at e).code.cells x) := enc_agg hca x
   rw [henc]
   refine .v _ _ (.agg _ _ (by rw [hlen]; simp; omega) (fun y hy => ho y (List.mem_of_mem_drop (List.mem_of_mem_take hy))) (fun j p q hp' hq => ?_))
   rw [List.getElem?_take] at hq
   split at hq
   ·rw [List.getElem?_drop] at hq
    obtain ⟨u, e1, e2⟩ := cell j p hp'
    rw [e1] at hq; cases hq; exact e2
   ·cases hq
  | false =>
   simp only [Bool.false_eq_true, if_false]
   have hca : (tt.at e).code.isAgg = false := by simpa [ha] using hagg
   have henc : (tt.at e).code.cells x = [(tt.at e).code.enc x] := cells_one_enc hca x
   obtain ⟨u, e1, e2⟩ := cell 0 ((tt.at e).code.enc x) (by rw [henc]; rfl)
   rw [Nat.add_zero] at e1
   have : vs.getD (i.toNat * (tt.at e).size) Go.undef = u := by simp only [List.getD, e1, Option.getD_some]
   rw [this]
   exact .v _ _ e2
 ·exact h.elim

end
end Go.Proofs.YtdcljlafookliaaDoor.AB

namespace Go.Proofs.YtdcljlafookliaaDoor.AB
open Go

def OptR (G : Gh) : Option TV → Option Value → Prop
 | none, none => True
 | some x, some v => TR G x v
 | _, _ => False

section
variable {P : Program} {tt : TT} {Mine : Mn} {G : Gh} {s : St} {a : Act} {w : World}

theorem bounds_run {len cap : Nat} {lo hi : Option TV} {lov hiv : Option Value} {K : Nat → Nat → Prop} (b : Bool) (h : boundsK len lo hi K) (hl : OptR G lo lov) (hh : OptR G hi hiv)
  (hc : len ≤ cap) : ∃ l h, (Instr.sliceBounds b len cap lov hiv none).run P w = .ok (l, h, cap) w ∧ l ≤ h ∧ h ≤ len ∧ K l h := by
 unfold boundsK at h
 split at h
 ·match lov, hiv, hl, hh with
  | none, none, _, _ => exact ⟨0, len, by simp [Instr.sliceBounds], Nat.zero_le _, Nat.le_refl _, h⟩
 ·rename_i k l
  match lov, hiv, hl, hh with
  | some v, none, hl, _ =>
   cases hl with | v _ _ hl =>
   cases hl
   obtain ⟨h0, h1, h2⟩ := h
   refine ⟨l.toNat, len, ?_, by omega, Nat.le_refl _, h2⟩
   simp [Instr.sliceBounds, run_sliceBound w k l len _ h0 h1]
 ·rename_i k q
  match lov, hiv, hl, hh with
  | none, some v, _, hh =>
   cases hh with | v _ _ hh =>
   cases hh
   obtain ⟨h0, h1, h2⟩ := h
   refine ⟨0, q.toNat, ?_, Nat.zero_le _, by omega, h2⟩
   simp [Instr.sliceBounds, run_sliceBound w k q cap _ h0 (by omega)]
 ·rename_i kl l kh q
  match lov, hiv, hl, hh with
  | some u, some v, hl, hh =>
   cases hl with | v _ _ hl =>
   cases hl
   cases hh with | v _ _ hh =>
   cases hh
   obtain ⟨h0, h1, h2, h3⟩ := h
   refine ⟨l.toNat, q.toNat, ?_, by omega, by omega, h3⟩
   simp [Instr.sliceBounds, run_sliceBound w kh q cap _ (by omega) (by omega), run_sliceBound w kl l q.toNat _ h0 (by omega)]
 ·exact h.elim

theorem bounds_run_max {len cap m : Nat} {km : IntKind} {lo hi : Option TV} {lov hiv : Option Value} {K : Nat → Nat → Prop} (h : boundsK m lo hi K) (hl : OptR G lo lov) (hh : OptR G hi hiv)
  (hs : hi.isSome = true) (hc : m ≤ cap) (hml : (m : Int) ≤ len) : ∃ l h, (Instr.sliceBounds true len cap lov hiv (some (.int km m))).run P w = .ok (l, h, m) w ∧ l ≤ h ∧ h ≤ m ∧ K l h := by
 have hm : (m : Int).toNat = m := by simp
 unfold boundsK at h
 split at h
 ·cases hs
 ·cases hs
 ·rename_i k q
  match lov, hiv, hl, hh with
  | none, some v, _, hh =>
   cases hh with | v _ _ hh =>
   cases hh
   obtain ⟨h0, h1, h2⟩ := h
   refine ⟨0, q.toNat, ?_, Nat.zero_le _, by omega, h2⟩
   have e1 := run_sliceBound (P := P) w km m cap .slice3Acap (by omega) (by omega)
   have e2 := run_sliceBound (P := P) w k q m .slice3B h0 (by omega)
   simp [Instr.sliceBounds, e1, e2]
 ·rename_i kl l kh q
  match lov, hiv, hl, hh with
  | some u, some v, hl, hh =>
   cases hl with | v _ _ hl =>
   cases hl
   cases hh with | v _ _ hh =>
   cases hh
   obtain ⟨h0, h1, h2, h3⟩ := h
   refine ⟨l.toNat, q.toNat, ?_, by omega, by omega, h3⟩
   have e1 := run_sliceBound (P := P) w km m cap .slice3Acap (by omega) (by omega)
   have e2 := run_sliceBound (P := P) w kh q m .slice3B (by omega) (by omega)
   have e3 := run_sliceBound (P := P) w kl l q.toNat .slice3C h0 (by omega)
   simp [Instr.sliceBounds, e1, e2, e3]
 ·exact h.elim

theorem bytes_extract (l : List UInt8) (x y : Nat) : (ByteArray.mk l.toArray).extract x y = ByteArray.mk ((l.take y).drop x).toArray := by
 apply ByteArray.ext
 rw [ByteArray.data_extract]
 apply Array.ext'
 simp [List.extract_eq_take_drop, List.drop_take]

theorem run_sliceAt_list {t e : Nat} (hd : P.underlying t = some (.slice e)) {ao : Option Addr} {len cap l h m : Nat} {lo hi mx : Option Value}
  (hb : (Instr.sliceBounds true len cap lo hi mx).run P w = .ok (l, h, m) w) {sz : Nat} (hs : (sizeOf e).run P w = .ok sz w) :
  (Instr.sliceAt t (.slice ao len cap) lo hi mx).run P w = .ok (.slice (if m = l then ao else ao.map (·.add (l * sz))) (h - l) (m - l)) w := by
 have hu := run_underlying (P := P) hd w
 simp only [Instr.sliceAt, Sem.run_bind, hu, Result.andThen_ok, Instr.slice, hb, hs, Sem.run_pure]

theorem sub_list {c : Cd} {l : List c.T} {tk : Tok} {ao : Option Addr} {cap : Nat} (hx : VR G (.list c l tk) (.slice ao l.length cap)) {p q m : Nat} (h1 : p ≤ q) (h2 : q ≤ l.length)
  (h3 : q ≤ m) (hm : m ≤ cap) {t' : Tok} (ht : t' = .no ∨ (t' = .exact ∧ q = m)) :
  VR G (.list c ((l.take q).drop p) t') (.slice (if m = p then ao else ao.map (·.add (p * c.sz))) (q - p) (m - p)) := by
 cases hx with | list _ _ _ a cap b o vals ha hcap hcc ho hvv htk =>
 have hlen : ((l.take q).drop p).length = q - p := by simp; omega
 have key : ∀ (i : Nat) x, (((l.take q).drop p).flatMap c.cells)[i]? = some x → (l.flatMap c.cells)[p * c.sz + i]? = some x := by
  intro i x hx
  rw [flat_drop] at hx
  exact flat_take c l q _ _ hx
 have := VR.list (G := G) c ((l.take q).drop p) t' (if m = p then ao else ao.map (·.add (p * c.sz))) (m - p) b (o + p * c.sz) (fun i => vals (p * c.sz + i))
  (fun hne => by
   have hpos : 0 < ((l.take q).drop p).length := List.length_pos_iff.2 hne
   rw [hlen] at hpos
   have hl : l ≠ [] := by intro e; subst e; simp at h2; omega
   rw [if_neg (by omega), ha hl]
   simp [addr_add])
  (by rw [hlen]; omega)
  (fun i x hx => by rw [Nat.add_assoc]; exact hcc _ _ (key i x hx))
  (fun i x hx => ho _ _ (key i x hx))
  (fun i x hx => hvv _ _ (key i x hx))
  (by
   rcases ht with rfl | ⟨rfl, rfl⟩
   ·trivial
   ·show _ = _; rw [hlen])
 rw [hlen] at this
 exact this

theorem slice_sound (htt : TTOK P tt) {t : Nat} (hok : (tt.at t).ok = true) {x : TV} {u : Value} {lo hi mx : Option TV} {lov hiv mxv : Option Value} {K : TV → St → Prop}
  (h : sliceK tt t x lo hi mx s K) (hin : Inv Mine G s.hp s.T w) (hx : TR G x u) (h1 : OptR G lo lov) (h2 : OptR G hi hiv) (h3 : OptR G mx mxv) :
  Res Mine G s w ((Instr.sliceAt t u lov hiv mxv).run P w) K := by
 obtain ⟨d, hd, hk⟩ := (htt t hok).und
 unfold sliceK at h
 split at h
 ·rename_i l hkk
  rw [hkk] at hk; simp only [KOK] at hk; subst hk
  cases hx with | v _ _ hx =>
  cases hx
  split at h
  ·match mxv, h3 with
   | none, _ =>
    obtain ⟨p, q, e1, e2, e3, e4⟩ := bounds_run (P := P) (w := w) false h h1 h2 (Nat.le_refl _)
    refine Res.same hin (y := .string ((ByteArray.mk l.toArray).extract p q)) ?_ e4 ?_
    ·simp [Instr.sliceAt, Instr.slice, run_underlying hd, bytes_size, e1]
    ·rw [bytes_extract]; exact .v _ _ (.str _)
  ·exact h.elim
 ·rename_i e0 c l tk hkk
  split at h
  case h_2 => exact h.elim
  rename_i e he
  split at h
  case h_2 => exact h.elim
  rename_i hc
  have hc := of_decide_eq_true hc
  obtain ⟨hd', _, hok2, hcok⟩ := sliceElem_ok htt he
  obtain ⟨hsz, hpos, hbpos⟩ := (htt e hok2).cok hcok
  have hsize := run_sizeOf htt hok2 w
  have hcs : (tt.at e).size = c.sz := by rw [hc]; exact hsz.symm
  rw [hcs] at hsize
  cases hx with | v _ _ hx =>
  have hx' := hx
  cases hx with | list _ _ _ ao cap b o vals ha hcap hcc ho hvv ht =>
  split at h
  ·match mxv, h3 with
   | none, _ =>
    obtain ⟨p, q, e1, e2, e3, e4⟩ := bounds_run (P := P) (w := w) true h h1 h2 hcap
    exact Res.same hin (run_sliceAt_list hd' e1 hsize) e4 (.v _ _ (sub_list hx' e2 e3 (by omega) (Nat.le_refl _) (.inl rfl)))
  ·rename_i km m
   obtain ⟨hm0, hm1, h⟩ := h
   split at h
   ·rename_i hv
    match mxv, h3 with
    | some v, h3 =>
     cases h3 with | v _ _ h3 =>
     cases h3
     obtain ⟨p, q, e1, e2, e3, e4, e5⟩ := bounds_run_max (P := P) (w := w) (len := l.length) (cap := cap) (km := km) h h1 h2 rfl (by omega) (by omega)
     rw [Int.toNat_of_nonneg hm0] at e1
     exact Res.same hin (run_sliceAt_list hd' e1 hsize) e5 (.v _ _ (sub_list hx' e2 (by omega) e3 (by omega) (.inr ⟨rfl, e4⟩)))
   ·exact h.elim
  ·exact h.elim
 ·rename_i e0 i g off len hkk
  split at h
  case h_2 => exact h.elim
  rename_i e g' c l ts he hh
  split at h
  case h_2 => exact h.elim
  rename_i hc
  have hc := of_decide_eq_true hc
  obtain ⟨rfl, h⟩ := h
  obtain ⟨hd', _, hok2, hcok⟩ := sliceElem_ok htt he
  obtain ⟨hsz, hpos, hbpos⟩ := (htt e hok2).cok hcok
  have hsize := run_sizeOf htt hok2 w
  have hcs : (tt.at e).size = c.sz := by rw [hc]; exact hsz.symm
  rw [hcs] at hsize
  obtain ⟨bo, ct', hl1, _⟩ := hin.objs i _ (hp_get hh)
  match mxv, h3 with
  | none, _ =>
   cases hx with
   | arr _ _ _ _ b sz ct cap o hloc hl hcp hoo =>
    rw [hloc] at hl1; cases hl1
    obtain ⟨p, q, e1, e2, e3, e4⟩ := bounds_run (P := P) (w := w) true h h1 h2 hl
    refine Res.same hin (run_sliceAt_list hd' e1 hsize) e4 ?_
    by_cases hcap : cap = p
    ·rw [if_pos hcap]
     exact .arr i g (off + p) (q - p) b c.sz _ (cap - p) o hloc (by omega) (by omega) (by omega)
    ·rw [if_neg hcap]
     simp only [Option.map_some, addr_add]
     exact .arr i g (off + p) (q - p) b c.sz _ (cap - p) (o + p * c.sz) hloc (by omega) (by omega) (fun _ => by rw [hoo (by omega), Nat.add_mul])
   | arrNil _ _ sz ct hloc =>
    obtain ⟨p, q, e1, e2, e3, e4⟩ := bounds_run (P := P) (w := w) true h h1 h2 (Nat.le_refl 0)
    have hp : p = 0 := by omega
    have hq : q = 0 := by omega
    subst hp hq
    refine Res.same hin (run_sliceAt_list hd' e1 hsize) e4 ?_
    simpa using TR.arrNil (G := G) i g sz ct hloc
 ·exact h.elim

end
end Go.Proofs.YtdcljlafookliaaDoor.AB

namespace Go.Proofs.YtdcljlafookliaaDoor.AB
open Go

section
variable {P : Program} {tt : TT} {Mine : Mn} {G : Gh} {s : St} {a : Act} {w : World}

theorem makeFunc_sound {f : FuncId} {caps : List TV} {vs : Array Value} {K : TV → St → Prop} (hl : caps.length = vs.size)
  (hp : ∀ (i : Nat) x y, caps[i]? = some x → vs[i]? = some y → TR G x y)
  (h : makeFuncK f caps s K) (hi : Inv Mine G s.hp s.T w) :
  Res Mine G s w ((Instr.makeFunc (.func f) #[] vs).run P w) K := by
 cases caps with
 | nil =>
  have : vs = #[] := by apply Array.eq_empty_of_size_eq_zero; simpa using hl.symm
  subst this
  exact Res.same hi (by simp [Instr.makeFunc]) h (.v _ _ (.fn f))
 | cons x r =>
  refine Res.same hi (y := .func (.func f) #[] vs) (by simp [Instr.makeFunc]) h ?_
  have := TR.clo (G := G) f (x :: r) vs.toList (by simpa using hl) (fun i p q hp' hq => hp i p q hp' (by simpa using hq))
  simpa using this

theorem fresh_priv {hp : Hp} {T : Toks} (hi : Inv Mine G hp T w) : G.priv w.heap.size := by
 refine ⟨fun o => ?_, ?_⟩
 ·cases h : G.cell w.heap.size o with
  | none => rfl
  | some v => have := hi.cell_lt h; omega
 ·cases h : G.mp w.heap.size with
  | none => rfl
  | some v => have := hi.mp_lt h; omega

theorem heap_new (w : World) (o : Obj) : (w.alloc o).heap[w.heap.size]? = some o := by
 show (w.heap.push o)[w.heap.size]? = _
 rw [Array.getElem?_push, if_pos rfl]

theorem makeMap_sound {t : Nat} {kc vc : Cd} {K : TV → St → Prop} (h : K (.mapr s.hp.length) (s.addO (.map kc vc []))) (hi : Inv Mine G s.hp s.T w) :
  Res Mine G s w ((Instr.makeMap t none).run P w) K := by
 have hr : (Instr.makeMap t none).run P w = .ok (.map (some w.heap.size)) (w.alloc (.map #[] 0)) := by simp [Instr.makeMap]
 have hor : OR Mine (G.setLoc s.hp.length 0 (some w.heap.size, 1, 1)) (w.alloc (.map #[] 0)) s.hp.length (.map kc vc []) :=
  ⟨w.heap.size, 1, 1, by simp [Gh.setLoc], hi.mine _ (Nat.le_refl _), ⟨(fresh_priv hi).1, (fresh_priv hi).2⟩, #[], 0, heap_new w _, rfl, by simp⟩
 obtain ⟨h1, h2, h3, h4⟩ := hi.addObj (.map #[] 0) (.map kc vc []) 1 1 (fun _ => Iff.rfl) hor
 refine ⟨_, _, _, .mapr s.hp.length, s.addO (.map kc vc []), hr, h, ?_, rfl, h1, h2, h3, by simp [St.addO], h4⟩
 exact .mapr s.hp.length w.heap.size 1 1 (by simp [Gh.setLoc, O.gen])

theorem makeSlice_sound (htt : TTOK P tt) {t : Nat} {l c : TV} {lv cv : Value} {K : TV → St → Prop} (h : makeSliceK tt t l c s K) (hi : Inv Mine G s.hp s.T w)
  (hl : TR G l lv) (hc : TR G c cv) : Res Mine G s w ((Instr.makeSlice t lv cv).run P w) K := by
 unfold makeSliceK at h
 split at h
 case h_2 => exact h.elim
 rename_i e kl n kc m he
 split at h
 case h_2 => exact h.elim
 rename_i z hz
 obtain ⟨h0, hnm, hroom, h63, h⟩ := h
 obtain ⟨hd, _, hok2, hcok⟩ := sliceElem_ok htt he
 obtain ⟨hsz, hpos, hbpos⟩ := (htt e hok2).cok hcok
 cases hl with | v _ _ hl =>
 cases hl
 cases hc with | v _ _ hc =>
 cases hc
 obtain ⟨i, zv, h1, h2, h3, h4, h5, h6, h7, h8, h9⟩ := run_zero htt hok2 w
 have hbytes : (i.bytes : Int) * m ≤ 281474976710656 := by
  rw [h4, Int.mul_comm]
  have hr : m * ((tt.at e).bytes : Int) ≤ 140737488355328 := by simpa [room] using hroom
  omega
 have hr := run_make (P := P) w t e i zv hd h1 h2 kl kc n m h0 hnm hbytes h63
 rw [h3] at hr
 have hmm : (madeCells zv.cells (m.toNat * (tt.at e).size)).size = m.toNat * (tt.at e).code.sz := by rw [size_madeCells, hsz]
 have hor : OR Mine (G.setLoc s.hp.length 0 (some w.heap.size, (tt.at e).code.sz, m.toNat)) (w.alloc (.cells (madeCells zv.cells (m.toNat * (tt.at e).size)) e)) s.hp.length
   (.arr 0 (tt.at e).code (List.replicate n.toNat z) (fun _ => (tt.at e).zero.tok)) := by
  refine ⟨some w.heap.size, m.toNat, by simp [Gh.setLoc], by simp; omega, hi.mine _ (Nat.le_refl _), ⟨(fresh_priv hi).1, (fresh_priv hi).2⟩, _, e, heap_new w _, hmm, ?_⟩
  intro k x hx j q hq
  have hk : k < n.toNat := by
   have := (List.getElem?_eq_some_iff.1 hx).1; simpa using this
  have hxz : x = z := by
   rw [List.getElem?_replicate, if_pos hk] at hx; cases hx; rfl
  subst hxz
  have hj : j < (tt.at e).code.sz := by
   have := (List.getElem?_eq_some_iff.1 hq).1
   rw [Cd.length_encT] at this; exact this
  have hzr : TR (G.setLoc s.hp.length 0 (some w.heap.size, (tt.at e).code.sz, m.toNat)) (.v (tt.at e).zero) zv := .v _ _ (h5 _)
  obtain ⟨u, hu1, hu2⟩ := encT_R hz hzr j q hq
  refine ⟨u, ?_, hu2, ?_⟩
  ·have hlt : k * (tt.at e).code.sz + j < m.toNat * (tt.at e).size := by
    rw [← hsz]
    have : (k + 1) * (tt.at e).code.sz ≤ m.toNat * (tt.at e).code.sz := Nat.mul_le_mul_right _ (by omega)
    rw [Nat.succ_mul] at this; omega
   have hmod : (k * (tt.at e).code.sz + j) % zv.cells.size = j := by
    rw [h6, ← hsz, Nat.mul_comm, Nat.mul_add_mod, Nat.mod_eq_of_lt hj]
   unfold madeCells
   rw [Array.getElem?_map, Array.getElem?_range, if_pos hlt]
   simp only [Option.map_some, hmod]
   have hjz : j < zv.cells.size := by rw [h6, ← hsz]; exact hj
   rw [getElem!_pos zv.cells j hjz]
   rw [← hu1, Array.getElem?_eq_getElem hjz]
  ·obtain ⟨hjj, rfl⟩ := Array.getElem?_eq_some_iff.1 hu1
   exact Array.all_eq_true.1 h8 j hjj
 obtain ⟨g1, g2, g3, g4⟩ := hi.addObj (.cells (madeCells zv.cells (m.toNat * (tt.at e).size)) e) (.arr 0 (tt.at e).code (List.replicate n.toNat z) (fun _ => (tt.at e).zero.tok))
  (tt.at e).code.sz m.toNat (fun _ => Iff.rfl) hor
 refine ⟨_, _, _, .arr s.hp.length 0 0 n.toNat, _, hr, h, ?_, rfl, g1, g2, g3, by simp [St.addO], g4⟩
 exact .arr s.hp.length 0 0 n.toNat w.heap.size (tt.at e).code.sz m.toNat m.toNat 0 (by simp [Gh.setLoc, O.gen]) (by omega) (by omega) (fun _ => by simp)

theorem newList (hi : Inv Mine G s.hp s.T w) {c : Cd} {l : List c.T} {cur : Array Value} {el : TypeId} {m : Nat × Nat} {cap : Nat} {w0 : World} (hw : w0.heap = w.heap)
  (hs0 : Stp Mine w w0)
  (hcap : l.length ≤ cap) (hc : ∀ (j : Nat) q, (l.flatMap c.cells)[j]? = some q → ∃ u, cur[j]? = some u ∧ VR G q u ∧ u.oneCell' = true) {tk : Tok}
  (htk : tk = .no ∨ (tk = .exact ∧ cap = l.length)) {K : TV → St → Prop} (h : K (.v (.list c l tk)) s) :
  Res Mine G s w (.ok (.slice (some ⟨w.heap.size, 0, none⟩) l.length cap) (w0.alloc (.cells cur el m))) K := by
 have hi0 := hi.heap hw
 have hsz : w0.heap.size = w.heap.size := by rw [hw]
 let f : Nat → Option Value := fun o => if o < (l.flatMap c.cells).length then cur[o]? else none
 obtain ⟨g1, g2, g3, g4⟩ := hi0.addFrozen cur el m f (fun o v hv => by
  simp only [f] at hv
  split at hv
  ·exact hv
  ·cases hv)
 rw [hsz] at g1 g2 g3
 refine ⟨_, _, _, .v (.list c l tk), s, rfl, h, ?_, rfl, g1, g2, g3, Nat.le_refl _, hs0.trans g4⟩
 refine .v _ _ (.list c l tk (some ⟨w.heap.size, 0, none⟩) cap w.heap.size 0 (fun j => cur.getD j Go.undef) (fun _ => rfl) hcap ?_ ?_ ?_ ?_)
 ·intro i x hx
  obtain ⟨u, h1, h2, h3⟩ := hc i x hx
  have hlt := (List.getElem?_eq_some_iff.1 hx).1
  simp only [Gh.addCells, if_true, f, Nat.zero_add, if_pos hlt, h1, Array.getD_eq_getD_getElem?, Option.getD_some, (fresh_priv hi).1 i, Option.none_or]
 ·intro i x hx
  obtain ⟨u, h1, h2, h3⟩ := hc i x hx
  simp only [Array.getD_eq_getD_getElem?, h1, Option.getD_some]; exact h3
 ·intro i x hx
  obtain ⟨u, h1, h2, h3⟩ := hc i x hx
  simp only [Array.getD_eq_getD_getElem?, h1, Option.getD_some]; exact h2.mono g2
 ·rcases htk with rfl | ⟨rfl, rfl⟩
  ·trivial
  ·rfl

theorem bytes_cells (l : List UInt8) : ((bytesOf l).flatMap (Cd.int .u8).cells) = l.map fun b => V.int .u8 (b.toNat : Int) := by
 induction l with
 | nil => rfl
 | cons x l ih =>
  simp only [bytesOf, List.map_cons, List.flatMap_cons] at ih ⊢
  rw [ih]; rfl

theorem foldl_push (ns : List Int) : ∀ s : ByteArray, ns.foldl (fun r n => r.push (UInt8.ofNat n.toNat)) s = ⟨(s.data.toList ++ ofBytes ns).toArray⟩ := by
 induction ns with
 | nil => intro s; simp [ofBytes]
 | cons n ns ih =>
  intro s
  simp only [List.foldl_cons, ih, ofBytes, List.map_cons]
  congr 2
  simp [ByteArray.push]

theorem int_cells {k : IntKind} (l : List Int) : (l.flatMap (Cd.int k).cells) = l.map (V.int k) := by
 induction l with
 | nil => rfl
 | cons x l ih =>
  simp only [List.map_cons, List.flatMap_cons]
  rw [← ih]; rfl

theorem makeList_sound (htt : TTOK P tt) {t : Nat} {l c : TV} {lv cv : Value} {K : TV → St → Prop} (h : makeListK tt t l c s K) (hi : Inv Mine G s.hp s.T w)
  (hl : TR G l lv) (hc : TR G c cv) : Res Mine G s w ((Instr.makeSlice t lv cv).run P w) K := by
 unfold makeListK at h
 split at h
 case h_2 => exact h.elim
 rename_i e kl n kc m he
 split at h
 case h_2 => exact h.elim
 rename_i z hz
 obtain ⟨h0, hnm, hroom, h63, h⟩ := h
 obtain ⟨hd, _, hok2, hcok⟩ := sliceElem_ok htt he
 obtain ⟨hsz, hpos, hbpos⟩ := (htt e hok2).cok hcok
 cases hl with | v _ _ hl =>
 cases hl
 cases hc with | v _ _ hc =>
 cases hc
 obtain ⟨i, zv, h1, h2, h3, h4, h5, h6, h7, h8, h9⟩ := run_zero htt hok2 w
 have hbytes : (i.bytes : Int) * m ≤ 281474976710656 := by
  rw [h4, Int.mul_comm]
  have hr : m * ((tt.at e).bytes : Int) ≤ 140737488355328 := by simpa [room] using hroom
  omega
 have hr := run_make (P := P) w t e i zv hd h1 h2 kl kc n m h0 hnm hbytes h63
 rw [h3] at hr
 have hlen : (List.replicate n.toNat z).length = n.toNat := by simp
 refine (newList (c := (tt.at e).code) (l := List.replicate n.toNat z) hi (w0 := w) rfl (.refl _ _) (cur := madeCells zv.cells (m.toNat * (tt.at e).size)) (el := e) (m := (0, 0)) (cap := m.toNat)
  (by rw [hlen]; omega) ?_ (.inl rfl) h).run ?_
 ·intro j q hq
  obtain ⟨k, j', x, e1, e2, e3, e4⟩ := flat_split (tt.at e).code _ hq
  have hk : k < n.toNat := by
   have := (List.getElem?_eq_some_iff.1 e3).1; simpa using this
  have hxz : x = z := by
   rw [List.getElem?_replicate, if_pos hk] at e3; cases e3; rfl
  subst hxz
  have hzr : TR G (.v (tt.at e).zero) zv := .v _ _ (h5 _)
  obtain ⟨u, hu1, hu2⟩ := dec_cells hz hzr.toV j' q e4
  refine ⟨u, ?_, hu2, ?_⟩
  ·have hlt : k * (tt.at e).code.sz + j' < m.toNat * (tt.at e).size := by
    rw [← hsz]
    have : (k + 1) * (tt.at e).code.sz ≤ m.toNat * (tt.at e).code.sz := Nat.mul_le_mul_right _ (by omega)
    rw [Nat.succ_mul] at this; omega
   have hmod : (k * (tt.at e).code.sz + j') % zv.cells.size = j' := by
    rw [h6, ← hsz, Nat.mul_comm, Nat.mul_add_mod, Nat.mod_eq_of_lt e2]
   rw [e1]
   unfold madeCells
   rw [Array.getElem?_map, Array.getElem?_range, if_pos hlt]
   simp only [Option.map_some, hmod]
   have hjz : j' < zv.cells.size := by rw [h6, ← hsz]; exact e2
   rw [getElem!_pos zv.cells j' hjz]
   rw [← hu1, Array.getElem?_eq_getElem hjz]
  ·obtain ⟨hjj, rfl⟩ := Array.getElem?_eq_some_iff.1 hu1
   exact Array.all_eq_true.1 h8 j' hjj
 ·rw [hr, hlen]

theorem convert_sound (htt : TTOK P tt) {src dst : Nat} (h1 : (tt.at src).ok = true) (h2 : (tt.at dst).ok = true) {x : TV} {u : Value} {K : TV → St → Prop}
  (h : convertK tt src dst x s K) (hi : Inv Mine G s.hp s.T w) (hx : TR G x u) : Res Mine G s w ((convert src dst u).run P w) K := by
 obtain ⟨ds, hds, hks⟩ := (htt src h1).und
 obtain ⟨dd, hdd, hkd⟩ := (htt dst h2).und
 have us := run_underlying (P := P) hds w
 have ud := run_underlying (P := P) hdd w
 unfold convertK at h
 split at h
 ·rename_i k k' n hkk
  rw [hkk] at hkd; simp only [KOK] at hkd; subst hkd
  cases hx with | v _ _ hx =>
  cases hx
  refine Res.same hi (y := .int k (k.wrap n)) ?_ h (.v _ _ (.int _ _))
  simp only [convert, Sem.run_bind, us, ud, Result.andThen_ok]
  cases ds <;> rfl
 ·rename_i l hkk
  rw [hkk] at hkd; simp only [KOK] at hkd; subst hkd
  cases hx with | v _ _ hx =>
  cases hx
  refine Res.same hi (y := .string ⟨l.toArray⟩) ?_ h (.v _ _ (.str _))
  simp only [convert, Sem.run_bind, us, ud, Result.andThen_ok]
  cases ds <;> rfl
 ·rename_i e l hkk
  split at h
  ·rename_i hks' hok3 hke
   rw [hkk] at hkd; simp only [KOK] at hkd; subst hkd
   rw [hks'] at hks; simp only [KOK] at hks; subst hks
   obtain ⟨de, hde, hkde⟩ := (htt e hok3).und
   rw [hke] at hkde; simp only [KOK] at hkde; subst hkde
   cases hx with | v _ _ hx =>
   cases hx
   have hr := run_bytes_of_string (P := P) w src dst e ⟨l.toArray⟩ hds hdd hde
   rw [bytes_size] at hr
   generalize hcap : grownCap w l.length 0 e = cap at hr
   have hcapl : l.length ≤ cap := by rw [← hcap]; exact grownCap_ge _ _ _ _
   generalize hcur : bytesRow ⟨l.toArray⟩ cap = cur at hr
   refine (newList (c := .int .u8) (l := bytesOf l) hi (w0 := w.drew) rfl ⟨rfl, rfl, rfl, Nat.le_refl _, fun _ _ => rfl⟩ (cur := cur) (el := e) (m := (cur.size, cur.size + 1)) (cap := cap)
    (by simpa [bytesOf] using hcapl) ?_ (.inl rfl) h).run ?_
   ·intro j q hq
    rw [bytes_cells, List.getElem?_map] at hq
    cases hb : l[j]? with
    | none => rw [hb] at hq; cases hq
    | some b =>
     rw [hb] at hq; cases hq
     have hjl := (List.getElem?_eq_some_iff.1 hb).1
     refine ⟨.int .u8 (b.toNat : Int), ?_, .int _ _, rfl⟩
     rw [← hcur]
     unfold bytesRow
     rw [Array.getElem?_append_left (by simpa using hjl)]
     simp [hb]
   ·rw [hr]; simp [bytesOf]
  ·exact h.elim
 ·rename_i l tk hkk
  split at h
  case h_2 => exact h.elim
  rename_i e he
  split at h
  case h_2 => exact h.elim
  rename_i hke
  obtain ⟨hd, _, hok2, _⟩ := sliceElem_ok htt he
  obtain ⟨de, hde, hkde⟩ := (htt e hok2).und
  rw [hke] at hkde; simp only [KOK] at hkde; subst hkde
  rw [hkk] at hkd; simp only [KOK] at hkd; subst hkd
  cases hx with | v _ _ hx =>
  cases hx with | list _ _ _ ao cap b o vals ha hcap hcc ho hvv ht =>
  refine Res.same hi (y := .string ⟨(ofBytes l).toArray⟩) ?_ h (.v _ _ (.str _))
  rw [run_convert_bytes_string w src dst e ao _ cap hd hde hdd]
  by_cases hl : l = []
  ·subst hl
   cases ao with
   | none => simp [Conv.bytesToString, ofBytes]; rfl
   | some ad =>
    show (Conv.bytesToString (.slice (some ad) 0 cap)).run P w = _
    rw [run_bytesToString w ad 0 cap [] (by simp [loadCells, loadCellsFrom])]
    rfl
  ·obtain rfl := ha hl
   have hcells : ∀ (j : Nat) y, (l.map (Value.int .u8))[j]? = some y → w.cell? ((⟨b, o, none⟩ : Addr).add j) = some y := by
    intro j y hy
    rw [List.getElem?_map] at hy
    cases hb : l[j]? with
    | none => rw [hb] at hy; cases hy
    | some n =>
     rw [hb] at hy; cases hy
     have hq : (l.flatMap (Cd.int .u8).cells)[j]? = some (V.int .u8 n) := by rw [int_cells, List.getElem?_map, hb]; rfl
     have h1 := hcc j _ hq
     have h2 := hvv j _ hq
     cases hv : vals j with
     | int k m =>
      rw [hv] at h2; cases h2
      rw [addr_add, ← hv]
      exact hi.cells _ _ _ h1
     | _ => rw [hv] at h2; cases h2
   rw [run_bytesToString w ⟨b, o, none⟩ l.length cap l (by
    have := run_loadCells_list (P := P) w ⟨b, o, none⟩ (l.map (Value.int .u8)) hcells
    simpa using this), foldl_push]
   rfl
 ·rename_i i g len hkk
  split at h
  case h_2 => exact h.elim
  rename_i e g' l ts he hh
  split at h
  case h_2 => exact h.elim
  rename_i hke
  obtain ⟨rfl, hlen, h⟩ := h
  obtain ⟨hd, _, hok2, _⟩ := sliceElem_ok htt he
  obtain ⟨de, hde, hkde⟩ := (htt e hok2).und
  rw [hke] at hkde; simp only [KOK] at hkde; subst hkde
  rw [hkk] at hkd; simp only [KOK] at hkd; subst hkd
  obtain ⟨bo, ct, hl1, hle, hbo⟩ := hi.objs i _ (hp_get hh)
  cases hx with
  | arrNil _ _ sz ct' hloc =>
   refine Res.same hi (y := .string ⟨(ofBytes (l.take 0)).toArray⟩) ?_ h (.v _ _ (.str _))
   rw [run_convert_bytes_string w src dst e none 0 0 hd hde hdd]
   simp [Conv.bytesToString, ofBytes]; rfl
  | arr _ _ _ _ b sz ct' cap o hloc hlc hcp hoo =>
   rw [hloc] at hl1; cases hl1
   obtain ⟨hm, hpr, cur, el, hb, hcsz, hcells⟩ := hbo
   refine Res.same hi (y := .string ⟨(ofBytes (l.take len)).toArray⟩) ?_ h (.v _ _ (.str _))
   rw [run_convert_bytes_string w src dst e _ len cap hd hde hdd]
   by_cases hl0 : len = 0
   ·subst hl0
    rw [run_bytesToString w ⟨b, o, none⟩ 0 cap [] (by simp [loadCells, loadCellsFrom])]
    rfl
   ·have ho0 : o = 0 := by rw [hoo (by omega)]; simp
    subst ho0
    have hcs : ∀ (j : Nat) y, ((l.take len).map (Value.int .u8))[j]? = some y → w.cell? ((⟨b, 0, none⟩ : Addr).add j) = some y := by
     intro j y hy
     rw [List.getElem?_map] at hy
     cases hbj : (l.take len)[j]? with
     | none => rw [hbj] at hy; cases hy
     | some n =>
      rw [hbj] at hy; cases hy
      have hj : l[j]? = some n := by
       rw [List.getElem?_take] at hbj
       split at hbj
       ·exact hbj
       ·cases hbj
      obtain ⟨u, q1, q2, q3⟩ := hcells j n hj 0 (.int .u8 n) rfl
      cases q2
      rw [addr_add]
      unfold World.cell?
      simp only [hb, Nat.zero_add]
      have e1 : j * (Cd.int .u8).sz + 0 = j := by simp [Cd.sz]
      rw [e1] at q1
      simpa using q1
    have hll : (l.take len).length = len := by simp; omega
    rw [run_bytesToString w ⟨b, 0, none⟩ len cap (l.take len) (by
     have := run_loadCells_list (P := P) w ⟨b, 0, none⟩ ((l.take len).map (Value.int .u8)) hcs
     rw [List.length_map, hll] at this
     exact this), foldl_push]
    rfl
 ·exact h.elim

end
end Go.Proofs.YtdcljlafookliaaDoor.AB

namespace Go.Proofs.YtdcljlafookliaaDoor.AB
open Go

theorem foldl_set (vs : List Value) : ∀ (k off : Nat) (cs : Array Value), off + k + vs.length ≤ cs.size →
  ((vs.zipIdx k).foldl (fun cs (c, j) => cs.setIfInBounds (off + j) c) cs).toList = cs.toList.take (off + k) ++ vs ++ cs.toList.drop (off + k + vs.length) := by
 induction vs with
 | nil => intro k off cs h; simp
 | cons v vs ih =>
  intro k off cs h
  simp only [List.length_cons] at h
  simp only [List.zipIdx_cons, List.foldl_cons]
  rw [ih (k + 1) off _ (by simp; omega)]
  apply List.ext_getElem?
  intro i
  simp only [Array.toList_setIfInBounds, List.append_assoc, List.getElem?_append, List.length_take, List.length_set, Array.length_toList, List.getElem?_take, List.getElem?_drop,
   List.getElem?_set, List.length_cons, List.cons_append]
  have m1 : min (off + (k + 1)) cs.size = off + k + 1 := by omega
  have m2 : min (off + k) cs.size = off + k := by omega
  rw [m1, m2]
  by_cases c1 : i < off + k
  ·rw [if_pos (by omega), if_pos (by omega), if_neg (by omega), if_pos c1, if_pos c1]
  ·rw [if_neg c1]
   by_cases c2 : i = off + k
   ·subst c2
    rw [if_pos (by omega), if_pos (by omega), if_pos rfl, if_pos (by omega)]
    simp
   ·rw [if_neg (by omega)]
    rw [show i - (off + k) = (i - (off + k + 1)) + 1 by omega]
    simp only [List.getElem?_cons_succ, List.getElem?_append]
    by_cases c3 : i - (off + k + 1) < vs.length
    ·rw [if_pos c3, if_pos c3]
    ·rw [if_neg c3, if_neg c3, if_neg (by omega), List.getElem?_drop]
     congr 1; omega

section
variable {P : Program} {tt : TT} {Mine : Mn} {G : Gh} {s : St} {a : Act} {w : World}

def PR (G : Gh) : List (Nat × TV) → List (Nat × Value) → Prop
 | [], [] => True
 | (i, x) :: l, (j, y) :: r => i = j ∧ TR G x y ∧ PR G l r
 | _, _ => False

theorem fill_one {place : Nat → Option (Nat × Nat)} {i off n : Nat} {v : Value} {cs : Array Value} {r : List (Nat × Value)} (hp : place i = some (off, n)) (hn : v.cells.size = n)
  (hle : off + n ≤ cs.size) : Instr.fill place cs ((i, v) :: r) = Instr.fill place (cs.toList.take off ++ v.cells.toList ++ cs.toList.drop (off + n)).toArray r := by
 have hfold := foldl_set v.cells.toList 0 off cs (by simp; omega)
 simp only [Nat.add_zero, Array.length_toList, hn] at hfold
 simp only [Instr.fill, hp]
 rw [if_neg (by simp [hn]; omega)]
 congr 1
 apply Array.ext'
 rw [← hfold]
 simp only [Array.zipIdx]
 rw [← Array.foldl_toList]
 congr 1
 simp [List.mapIdx_eq_zipIdx_map]

theorem fill_sound {place pl : Nat → Option (Nat × Nat)} (hpl : ∀ i x, place i = some x → pl i = some x) : ∀ (parts : List (Nat × TV)) (vs : List (Nat × Value)) (cs cs' : List TV) (us : List Value),
  PR G parts vs → fillC place cs parts = some cs' → CR G cs us →
  ∃ us', Instr.fill pl us.toArray vs = some us'.toArray ∧ CR G cs' us'
 | [], [], cs, cs', us, _, h, hc => by
  simp only [fillC, Option.some.injEq] at h
  subst h
  exact ⟨us, rfl, hc⟩
 | (i, x) :: parts, (j, y) :: vs, cs, cs', us, hp, h, hc => by
  obtain ⟨rfl, hxy, hp⟩ := hp
  simp only [fillC] at h
  split at h
  case h_2 => cases h
  rename_i off n hpi
  split at h
  case h_2 => cases h
  rename_i c1 c2 c3
  have c1 := Nat.eq_of_beq_eq_true c1
  have c2 := Nat.le_of_ble_eq_true c2
  obtain ⟨q1, q2⟩ := hxy.cells c3
  have hcr : CR G x.cells y.cells.toList := ⟨by simpa using q1, fun j z u hz hu => q2 j z u hz (by simpa using hu)⟩
  have hput := hc.put hcr (f := off) (by omega)
  have hn : y.cells.size = n := by omega
  have hlen : y.cells.toList.length = n := by simpa using hn
  rw [hlen] at hput
  obtain ⟨us', h1, h2⟩ := fill_sound hpl parts vs _ cs' _ hp h hput
  refine ⟨us', ?_, h2⟩
  rw [fill_one (hpl _ _ hpi) hn (by rw [List.size_toArray, ← hc.1]; exact c2)]
  exact h1

theorem run_mapM_list {α β : Type} (f : α → Sem β) (g : α → β) : ∀ (l : List α), (∀ x ∈ l, (f x).run P w = .ok (g x) w) → (l.mapM f).run P w = .ok (l.map g) w
 | [], _ => rfl
 | x :: l, h => by
  have ih := run_mapM_list f g l (fun y hy => h y (by simp [hy]))
  simp [List.mapM_cons, h x (by simp), ih]

theorem run_mapM_arr {α β : Type} {l : Array α} (f : α → Sem β) (g : α → β) (h : ∀ x ∈ l.toList, (f x).run P w = .ok (g x) w) : (l.mapM f).run P w = .ok (l.map g) w := by
 rw [Array.mapM_eq_mapM_toList]
 have := run_mapM_list f g l.toList h
 simp only [Sem.run_map, this, Result.andThen_ok]
 congr 1
 apply Array.ext'
 simp

theorem build_sound (htt : TTOK P tt) {t : Nat} (hok : (tt.at t).ok = true) {parts : List (Nat × TV)} {vs : Array (Nat × Value)} {K : TV → St → Prop}
  (h : buildK tt t parts s K) (hi : Inv Mine G s.hp s.T w) (hp : PR G parts vs.toList) : Res Mine G s w ((Instr.build t vs).run P w) K := by
 unfold buildK at h
 split at h
 case h_2 => exact h.elim
 rename_i hagg
 split at h
 case h_2 => exact h.elim
 rename_i cs hcs
 obtain ⟨i, z, h1, h2, h3, h4, h5, h6, h7, h8, h9⟩ := run_zero htt hok w
 obtain ⟨d, hd, hk⟩ := (htt t hok).und
 have hlen : (tt.at t).zero.cells.length = z.cells.size := by rw [h7, h6]
 have hcr : CR G (TV.v (tt.at t).zero).cells z.cells.toList :=
  ⟨by simpa [TV.cells] using hlen, fun j p u hz hu => ((h5 G).cellsAt hlen h8) j p u hz (by simpa using hu)⟩
 cases hkk : (tt.at t).k <;> rw [hkk] at hagg hk hcs <;> simp only [TK.isAgg] at hagg
 case bool => cases hagg
 case int => cases hagg
 case str => cases hagg
 case ptr => cases hagg
 case slice => cases hagg
 case map => cases hagg
 case iface => cases hagg
 case func => cases hagg
 case other => cases hagg
 case arr n e =>
  simp only [KOK] at hk
  obtain ⟨rfl, hoke⟩ := hk
  obtain ⟨us', g1, g2⟩ := fill_sound (pl := fun i => some (i * (tt.at e).size, (tt.at e).size)) (fun i x hx => hx) parts vs.toList _ cs _ hp hcs hcr
  refine Res.same hi (y := .agg us'.toArray) ?_ h (TR.mkAgg g2.1 ?_ (fun i x y hx hy => (g2.2 i x y hx hy).1))
  ·simp only [Instr.build, Sem.run_bind, h9, Result.andThen_ok, run_underlying hd, run_sizeOf htt hoke]
   have : z.cells.toList.toArray = z.cells := by simp
   rw [this] at g1
   rw [g1]
   rfl
  ·intro u hu
   obtain ⟨j, hj⟩ := List.getElem?_of_mem hu
   have hjl : j < cs.length := by rw [g2.1]; exact (List.getElem?_eq_some_iff.1 hj).1
   exact (g2.2 j _ u (List.getElem?_eq_getElem hjl) hj).2
 case strct fs =>
  simp only [KOK] at hk
  obtain ⟨fields, rfl, hfl, hf⟩ := hk
  have hall : ∀ (i : Nat) (f : Field), fields[i]? = some f → ∃ off ft, fs[i]? = some (off, ft) ∧ f.offset = off ∧ f.type = ft ∧ (tt.at ft).ok = true := by
   intro i f hfi
   have hlt : i < fs.length := by rw [hfl]; exact (Array.getElem?_eq_some_iff.1 hfi).1
   obtain ⟨f', e1, e2, e3, e4⟩ := hf i (fs[i]).1 (fs[i]).2 (List.getElem?_eq_getElem hlt)
   rw [hfi] at e1; cases e1
   exact ⟨_, _, List.getElem?_eq_getElem hlt, e2, e3, e4⟩
  have hm : (fields.mapM fun f : Field => do pure (f.offset, ← sizeOf f.type) : Sem (Array (Nat × Nat))).run P w = .ok (fields.map fun f : Field => (f.offset, (tt.at f.type).size)) w := by
   refine run_mapM_arr _ _ (fun f hf' => ?_)
   obtain ⟨i, hi'⟩ := List.getElem?_of_mem hf'
   obtain ⟨off, ft, e1, e2, e3, e4⟩ := hall i f (by simpa using hi')
   subst e3
   simp [run_sizeOf htt e4]
  have hsub : ∀ i x, (TK.strct fs).place tt i = some x → (fields.map fun f : Field => (f.offset, (tt.at f.type).size))[i]? = some x := by
   intro i x hx
   simp only [TK.place] at hx
   split at hx
   ·rename_i off ft hft
    cases hx
    obtain ⟨f, e1, e2, e3, _⟩ := hf i off ft hft
    simp [e1, e2, e3]
   ·cases hx
  obtain ⟨us', g1, g2⟩ := fill_sound (pl := ((fields.map fun f : Field => (f.offset, (tt.at f.type).size))[·]?)) hsub parts vs.toList _ cs _ hp hcs hcr
  refine Res.same hi (y := .agg us'.toArray) ?_ h (TR.mkAgg g2.1 ?_ (fun i x y hx hy => (g2.2 i x y hx hy).1))
  ·simp only [Instr.build, Sem.run_bind, h9, Result.andThen_ok, run_underlying hd, hm]
   have : z.cells.toList.toArray = z.cells := by simp
   rw [this] at g1
   rw [g1]
   rfl
  ·intro u hu
   obtain ⟨j, hj⟩ := List.getElem?_of_mem hu
   have hjl : j < cs.length := by rw [g2.1]; exact (List.getElem?_eq_some_iff.1 hj).1
   exact (g2.2 j _ u (List.getElem?_eq_getElem hjl) hj).2

end
end Go.Proofs.YtdcljlafookliaaDoor.AB

namespace Go.Proofs.YtdcljlafookliaaDoor.AB
open Go

theorem Cd.cells_one : (c : Cd) → (x : c.T) → ∀ q ∈ c.cells x, q.one = true
 | .unit, _, q, h => by simp [Cd.cells] at h
 | .int _, _, q, h => by simp [Cd.cells] at h; subst h; rfl
 | .bool, _, q, h => by simp [Cd.cells] at h; subst h; rfl
 | .str, _, q, h => by simp [Cd.cells] at h; subst h; rfl
 | .slice _, _, q, h => by simp [Cd.cells] at h; subst h; rfl
 | .pair a b, p, q, h => by
  simp only [Cd.cells, List.mem_append] at h
  rcases h with h | h
  ·exact Cd.cells_one a _ q h
  ·exact Cd.cells_one b _ q h

section
variable {P : Program} {tt : TT} {Mine : Mn} {G : Gh} {s : St} {a : Act} {w : World}

theorem dec_size {c : Cd} {x : V} {y : Value} {v : c.T} (hd : c.dec x = some v) (h : VR G x y) : y.cells.size = c.sz ∧ ∀ u ∈ y.cells.toList, u.oneCell' = true := by
 have hcells := dec_cells hd h
 have hsize : y.cells.size = c.sz := by
  unfold Cd.dec at hd
  split at hd
  ·cases hd
  rename_i hnu
  split at hd
  case h_2 => cases hd
  rename_i b hg
  obtain ⟨g1, _, _⟩ := Cd.get_spec c _ _ _ hg
  simp only [List.length_nil, Nat.add_zero] at g1
  rw [← g1]
  cases h with
  | agg l vs hl ho hp => simp [Value.cells, V.cells, hl]
  | undef y => exact absurd rfl hnu
  | _ => rfl
 refine ⟨hsize, fun u hu => ?_⟩
 obtain ⟨j, hj⟩ := List.getElem?_of_mem hu
 have hlt : j < (c.cells v).length := by
  rw [Cd.length_cells, ← hsize]
  have := (List.getElem?_eq_some_iff.1 hj).1; simpa using this
 obtain ⟨u', e1, e2⟩ := hcells j _ (List.getElem?_eq_getElem hlt)
 have : u' = u := by
  have h1 : y.cells.toList[j]? = some u' := by simpa using e1
  rw [hj] at h1; cases h1; rfl
 subst this
 exact e2.one (Cd.cells_one c v _ (List.getElem_mem hlt))

theorem lit_fill {c : Cd} : ∀ (parts : List (Nat × TV)) (vs : List (Nat × Value)) (i : Nat) (l : List c.T) (us : List Value), litEls c i parts = some l → PR G parts vs →
  (i + parts.length) * c.sz ≤ us.length → ∃ us' : List Value, Instr.fill (fun i => some (i * c.sz, c.sz)) us.toArray vs = some us'.toArray ∧ us'.length = us.length ∧
   (∀ k, k < i * c.sz → us'[k]? = us[k]?) ∧ ∀ (j : Nat) q, (l.flatMap c.cells)[j]? = some q → ∃ u, us'[i * c.sz + j]? = some u ∧ VR G q u ∧ u.oneCell' = true
 | [], [], i, l, us, h, _, _ => by
  simp only [litEls, Option.some.injEq] at h
  subst h
  exact ⟨us, rfl, rfl, fun _ _ => rfl, fun j q hq => by simp at hq⟩
 | (k, x) :: parts, (k', y) :: vs, i, l, us, h, hp, hle => by
  obtain ⟨rfl, hxy, hp⟩ := hp
  simp only [litEls] at h
  split at h
  case h_2 => cases h
  rename_i v hik hv
  have hik := Nat.eq_of_beq_eq_true hik
  subst hik
  split at h
  case h_2 => cases h
  rename_i l' hl'
  cases h
  obtain ⟨hsz, hone⟩ := dec_size hv hxy.toV
  have hcells := dec_cells hv hxy.toV
  simp only [List.length_cons] at hle
  have hle' : i * c.sz + c.sz ≤ us.length := by
   have : (i + 1) * c.sz ≤ (i + (parts.length + 1)) * c.sz := Nat.mul_le_mul_right _ (by omega)
   rw [Nat.succ_mul] at this; omega
  have hyl : y.cells.toList.length = c.sz := by simpa using hsz
  obtain ⟨us', g1, g2, g3, g4⟩ := lit_fill parts vs (i + 1) l' (us.take (i * c.sz) ++ y.cells.toList ++ us.drop (i * c.sz + c.sz)) hl' hp (by
   simp only [List.length_append, List.length_take, List.length_drop, hyl]
   have : (i + 1 + parts.length) * c.sz = (i + (parts.length + 1)) * c.sz := by congr 1; omega
   omega)
  refine ⟨us', ?_, ?_, ?_, ?_⟩
  ·rw [fill_one (i := i) (off := i * c.sz) (n := c.sz) rfl hsz (by simpa using hle')]
   exact g1
  ·rw [g2]
   simp only [List.length_append, List.length_take, List.length_drop, hyl]; omega
  ·intro k hk
   rw [g3 k (by rw [Nat.succ_mul]; omega)]
   rw [List.append_assoc, List.getElem?_append_left (by simp; omega), List.getElem?_take, if_pos hk]
  ·intro j q hq
   simp only [List.flatMap_cons, List.getElem?_append, Cd.length_cells] at hq
   split at hq
   ·rename_i hj
    obtain ⟨u, e1, e2⟩ := hcells j q hq
    have e1' : y.cells.toList[j]? = some u := by simpa using e1
    refine ⟨u, ?_, e2, hone u (List.mem_of_getElem? e1')⟩
    rw [g3 _ (by rw [Nat.succ_mul]; omega), List.append_assoc, List.getElem?_append_right (by simp; omega)]
    rw [List.length_take, Nat.min_eq_left (by omega), Nat.add_sub_cancel_left, List.getElem?_append_left (by rw [hyl]; exact hj)]
    exact e1'
   ·rename_i hj
    obtain ⟨u, e1, e2, e3⟩ := g4 _ q hq
    refine ⟨u, ?_, e2, e3⟩
    rw [← e1]
    congr 1
    rw [Nat.succ_mul]; omega

theorem PR.length : ∀ {p : List (Nat × TV)} {v : List (Nat × Value)}, PR G p v → p.length = v.length
 | [], [], _ => rfl
 | (i, x) :: p, (j, y) :: v, h => by
  simp only [List.length_cons]
  rw [PR.length h.2.2]

theorem litEls_length {c : Cd} : ∀ (parts : List (Nat × TV)) (i : Nat) (l : List c.T), litEls c i parts = some l → l.length = parts.length
 | [], i, l, h => by simp only [litEls, Option.some.injEq] at h; subst h; rfl
 | (k, x) :: parts, i, l, h => by
  simp only [litEls] at h
  split at h
  case h_2 => cases h
  split at h
  case h_2 => cases h
  rename_i l' hl'
  cases h
  simp [litEls_length parts (i + 1) l' hl']

theorem buildBox_sound (htt : TTOK P tt) {t len : Nat} {parts : List (Nat × TV)} {vs : Array (Nat × Value)} {K : TV → St → Prop}
  (h : buildBoxK tt t len parts s K) (hi : Inv Mine G s.hp s.T w) (hp : PR G parts vs.toList) : Res Mine G s w ((Instr.buildSlice t len vs).run P w) K := by
 unfold buildBoxK at h
 split at h
 case h_2 => exact h.elim
 rename_i e hok hk
 split at h
 case h_2 => exact h.elim
 rename_i cs hok2 hsz hpos hsm hfill
 have hsz := Nat.eq_of_beq_eq_true hsz
 have hsm := Nat.le_of_ble_eq_true hsm
 rw [Nat.blt_eq] at hpos
 obtain ⟨d, hd, hkk⟩ := (htt t hok).und
 rw [hk] at hkk
 simp only [KOK] at hkk
 subst hkk
 obtain ⟨i, z, h1, h2, h3, h4, h5, h6, h7, h8, h9⟩ := run_zero htt hok2 w
 rw [hsz] at h6
 have hne : ¬ len * (tt.at e).size = 0 := by rw [hsz]; omega
 have hcr : CR G (List.replicate len (.v .undef)) ((Array.range (len * (tt.at e).size)).map (z.cells[· % z.cells.size]!)).toList := by
  refine ⟨by simp [hsz], fun j x u hx hu => ?_⟩
  rw [List.getElem?_replicate] at hx
  split at hx
  ·cases hx
   refine ⟨TR.undef _, ?_⟩
   have hmem := List.mem_of_getElem? hu
   simp only [Array.toList_map, List.mem_map] at hmem
   obtain ⟨k, _, rfl⟩ := hmem
   have hlt : k % z.cells.size < z.cells.size := Nat.mod_lt _ (by omega)
   rw [getElem!_pos z.cells _ hlt]
   exact Array.all_eq_true.1 h8 _ hlt
  ·cases hx
 obtain ⟨us', g1, g2⟩ := fill_sound (place := fun i => some (i * 1, 1)) (pl := fun i => some (i * 1, 1)) (fun i x h => h) parts vs.toList _ cs _ hp hfill hcr
 rw [Array.toArray_toList] at g1
 have hr : (Instr.buildSlice t len vs).run P w = .ok (.slice (some ⟨w.heap.size, 0, none⟩) len len) (w.alloc (.cells us'.toArray e)) := by
  simp only [Instr.buildSlice, Sem.run_bind, run_underlying hd, Result.andThen_ok, run_sizeOf htt hok2]
  rw [if_neg (by rw [hsz]; omega)]
  have hz : ∀ k : Array Value → Sem Value, (if len * (tt.at e).size = 0 then k #[] else (zeroValue e).bind fun v => k v.cells).run P w = (k z.cells).run P w := fun k => by
   rw [if_neg hne, Sem.run_bind', h9]; rfl
  have := hz (fun zero => do
   let some cells := Instr.fill (fun i => some (i * (tt.at e).size, (tt.at e).size)) ((Array.range (len * (tt.at e).size)).map (zero[· % zero.size]!)) vs.toList
    | stuck "buildSlice: a part of the wrong size"
   pure (.slice (some (← newRow e cells)) len len))
  rw [hsz] at this
  rw [hsz] at g1
  simp only [g1] at this
  rw [hsz]
  refine Eq.trans ?_ (this.trans ?_)
  ·rfl
  ·simp only [Sem.run_bind, newRow, run_newObj, Sem.run_pure, Result.andThen_ok, World.alloc]
 rw [hr]
 obtain ⟨k1, k2, k3, k4⟩ := addBoxG (s := s) (x := .agg cs) (y := .agg us'.toArray) hi e (by simpa [TV.cells, Value.cells] using g2.1) (fun j z u hz hu => by
  simp only [TV.cells, Value.cells] at hz hu
  exact g2.2 j z u hz (by simpa using hu))
 exact ⟨_, _, _, .bsl s.hp.length len, s.addO (.box (.agg cs)), rfl, h, .bsl _ _ w.heap.size 1 1 (by simp [Gh.setLoc]), rfl, k1, k2, k3, by simp [St.addO], k4⟩

theorem buildSlice_sound (htt : TTOK P tt) {t len : Nat} {parts : List (Nat × TV)} {vs : Array (Nat × Value)} {K : TV → St → Prop}
  (h : buildSliceK tt t len parts s K) (hi : Inv Mine G s.hp s.T w) (hp : PR G parts vs.toList) : Res Mine G s w ((Instr.buildSlice t len vs).run P w) K := by
 unfold buildSliceK at h
 split at h
 case h_2 => exact h.elim
 rename_i e he
 split at h
 case h_2 => exact h.elim
 rename_i l hlen hsm hl
 have hlen := Nat.eq_of_beq_eq_true hlen
 have hsm := Nat.le_of_ble_eq_true hsm
 obtain ⟨hd, _, hok2, hcok⟩ := sliceElem_ok htt he
 obtain ⟨hsz, hpos, hbpos⟩ := (htt e hok2).cok hcok
 obtain ⟨i, z, h1, h2, h3, h4, h5, h6, h7, h8, h9⟩ := run_zero htt hok2 w
 have hll := litEls_length parts 0 l hl
 obtain ⟨zc, hzc⟩ : ∃ zc : Array Value, ∀ k : Array Value → Sem Value, (if len * (tt.at e).size = 0 then k #[] else (zeroValue e).bind fun v => k v.cells).run P w = (k zc).run P w := by
  by_cases hz : len * (tt.at e).size = 0
  ·exact ⟨#[], fun k => by rw [if_pos hz]⟩
  ·exact ⟨z.cells, fun k => by rw [if_neg hz, Sem.run_bind', h9]; rfl⟩
 have hz0 : ((Array.range (len * (tt.at e).size)).map (zc[· % zc.size]!)).toList.length = len * (tt.at e).size := by simp
 obtain ⟨us', g1, g2, g3, g4⟩ := lit_fill (c := (tt.at e).code) parts vs.toList 0 l ((Array.range (len * (tt.at e).size)).map (zc[· % zc.size]!)).toList hl hp (by
  rw [hz0, hsz, Nat.zero_add, hlen]; exact Nat.le_refl _)
 have hr : (Instr.buildSlice t len vs).run P w = .ok (.slice (some ⟨w.heap.size, 0, none⟩) len len) (w.alloc (.cells us'.toArray e)) := by
  rw [hsz] at g1
  rw [Array.toArray_toList] at g1
  simp only [Instr.buildSlice, Sem.run_bind, run_underlying hd, Result.andThen_ok, run_sizeOf htt hok2]
  rw [if_neg (by omega)]
  have := hzc (fun zero => do
   let some cells := Instr.fill (fun i => some (i * (tt.at e).size, (tt.at e).size)) ((Array.range (len * (tt.at e).size)).map (zero[· % zero.size]!)) vs.toList
    | stuck "buildSlice: a part of the wrong size"
   pure (.slice (some (← newRow e cells)) len len))
  simp only [g1] at this
  refine Eq.trans ?_ (this.trans ?_)
  ·rfl
  ·simp only [Sem.run_bind, newRow, run_newObj, Sem.run_pure, Result.andThen_ok, World.alloc]
 refine (newList (c := (tt.at e).code) (l := l) hi (w0 := w) rfl (.refl _ _) (cur := us'.toArray) (el := e) (m := (0, 0)) (cap := l.length) (Nat.le_refl _) ?_ (.inr ⟨rfl, rfl⟩) h).run ?_
 ·intro j q hq
  obtain ⟨u, e1, e2, e3⟩ := g4 j q hq
  exact ⟨u, by simpa using e1, e2, e3⟩
 ·rw [hr, hll, hlen]

theorem buildArr_sound (htt : TTOK P tt) {t len : Nat} {parts : List (Nat × TV)} {vs : Array (Nat × Value)} {K : TV → St → Prop}
  (h : buildArrK tt t len parts s K) (hi : Inv Mine G s.hp s.T w) (hp : PR G parts vs.toList) : Res Mine G s w ((Instr.buildSlice t len vs).run P w) K := by
 unfold buildArrK at h
 split at h
 case h_2 => exact h.elim
 rename_i e he
 split at h
 case h_2 => exact h.elim
 rename_i l hlen hsm hl
 have hlen := Nat.eq_of_beq_eq_true hlen
 have hsm := Nat.le_of_ble_eq_true hsm
 obtain ⟨hd, _, hok2, hcok⟩ := sliceElem_ok htt he
 obtain ⟨hsz, hpos, hbpos⟩ := (htt e hok2).cok hcok
 obtain ⟨i, z, h1, h2, h3, h4, h5, h6, h7, h8, h9⟩ := run_zero htt hok2 w
 have hll := litEls_length parts 0 l hl
 obtain ⟨zc, hzc⟩ : ∃ zc : Array Value, ∀ k : Array Value → Sem Value, (if len * (tt.at e).size = 0 then k #[] else (zeroValue e).bind fun v => k v.cells).run P w = (k zc).run P w := by
  by_cases hz : len * (tt.at e).size = 0
  ·exact ⟨#[], fun k => by rw [if_pos hz]⟩
  ·exact ⟨z.cells, fun k => by rw [if_neg hz, Sem.run_bind', h9]; rfl⟩
 have hz0 : ((Array.range (len * (tt.at e).size)).map (zc[· % zc.size]!)).toList.length = len * (tt.at e).size := by simp
 obtain ⟨us', g1, g2, g3, g4⟩ := lit_fill (c := (tt.at e).code) parts vs.toList 0 l ((Array.range (len * (tt.at e).size)).map (zc[· % zc.size]!)).toList hl hp (by
  rw [hz0, hsz, Nat.zero_add, hlen]; exact Nat.le_refl _)
 have hr : (Instr.buildSlice t len vs).run P w = .ok (.slice (some ⟨w.heap.size, 0, none⟩) len len) (w.alloc (.cells us'.toArray e)) := by
  rw [hsz] at g1
  rw [Array.toArray_toList] at g1
  simp only [Instr.buildSlice, Sem.run_bind, run_underlying hd, Result.andThen_ok, run_sizeOf htt hok2]
  rw [if_neg (by omega)]
  have := hzc (fun zero => do
   let some cells := Instr.fill (fun i => some (i * (tt.at e).size, (tt.at e).size)) ((Array.range (len * (tt.at e).size)).map (zero[· % zero.size]!)) vs.toList
    | stuck "buildSlice: a part of the wrong size"
   pure (.slice (some (← newRow e cells)) len len))
  simp only [g1] at this
  refine Eq.trans ?_ (this.trans ?_)
  ·rfl
  ·simp only [Sem.run_bind, newRow, run_newObj, Sem.run_pure, Result.andThen_ok, World.alloc]
 have hor : OR Mine (G.setLoc s.hp.length 0 (some w.heap.size, (tt.at e).code.sz, len)) (w.alloc (.cells us'.toArray e)) s.hp.length (.arr 0 (tt.at e).code l (fun _ => .no)) := by
  have hul : us'.length = len * (tt.at e).code.sz := by rw [g2, hz0, hsz]
  refine ⟨some w.heap.size, len, by simp [Gh.setLoc], by omega, hi.mine _ (Nat.le_refl _), ⟨(fresh_priv hi).1, (fresh_priv hi).2⟩, _, e, heap_new w _, by simpa using hul, ?_⟩
  intro k x hx j q hq
  have hq' : ((tt.at e).code.cells x)[j]? = some q := by
   have gen : ∀ (c : Cd) (x : c.T), (c.encT x .no).cells = c.cells x := fun c x => by cases c <;> rfl
   rw [← gen]; exact hq
  obtain ⟨u, e1, e2, e3⟩ := g4 _ q (flat_get (tt.at e).code l hx hq')
  exact ⟨u, by simpa using e1, e2.mono (Fz.f0 (⟨fun _ _ _ y => y, fun _ _ y => y, fun _ _ y => y, fun _ _ _ _ _ y => y⟩ : Fz G (G.setLoc s.hp.length 0 (some w.heap.size, (tt.at e).code.sz, len)))), e3⟩
 obtain ⟨a1, a2, a3, a4⟩ := hi.addObj (.cells us'.toArray e) (.arr 0 (tt.at e).code l (fun _ => .no)) (tt.at e).code.sz len (fun _ => Iff.rfl) hor
 refine ⟨_, _, _, .arr s.hp.length 0 0 len, _, hr, h, ?_, rfl, a1, a2, a3, by simp [St.addO], a4⟩
 exact .arr s.hp.length 0 0 len w.heap.size (tt.at e).code.sz len len 0 (by simp [Gh.setLoc, O.gen]) (Nat.le_refl _) (by omega) (fun _ => by simp)

end
end Go.Proofs.YtdcljlafookliaaDoor.AB

namespace Go.Proofs.YtdcljlafookliaaDoor.AB
open Go

section
variable {P : Program} {tt : TT} {Mine : Mn} {G : Gh} {s : St} {a : Act} {w : World}

structure Src (P : Program) (w : World) (size n : Nat) (v : Value) (news : List Value) : Prop where
 len : ∀ w' : World, (Builtin.lenOf v).run P w' = .ok n w'
 cells : ∀ w' : World, w'.heap = w.heap → (Builtin.firstCells size n v).run P w' = .ok news.toArray w'
 size : news.length = n * size
 one : ∀ u ∈ news, u.oneCell' = true

variable {t t2 e ty : TypeId} {i : TypeInfo} {z : Value} {d2 : TypeDesc}

theorem run_app_room (ht : P.underlying t = some (.slice e)) (ht2 : P.underlying t2 = some d2) (hd2 : ∀ k, d2 ≠ .int k) (hi : P.info? e = some i) {n : Nat} {v : Value} {news : List Value}
  (hs : Src P w i.size n v news) {b o sLen sCap : Nat} {cur : Array Value} {el : TypeId} (hb : w.heap[b]? = some (.cells cur el (0, 0))) (hroom : sLen + n ≤ sCap)
  (hfit : o + sLen * i.size + news.length ≤ cur.size) :
  (Builtin.append_ #[t, t2] ty #[.slice (some ⟨b, o, none⟩) sLen sCap, v]).run P w =
   .ok (.slice (some ⟨b, o, none⟩) (sLen + n) sCap) (w.setRow b (cur.toList.take (o + sLen * i.size) ++ news ++ cur.toList.drop (o + sLen * i.size + news.length)).toArray) := by
 have hz : (match d2 with | .int _ => true | _ => false) = false := by cases d2 <;> first | rfl | exact absurd rfl (hd2 _)
 have hst := run_storeCells_at P b (o + sLen * i.size) el news 0 cur w hb (by simpa using hfit) hs.one
 simp only [Nat.add_zero] at hst
 simp only [Builtin.append_, List.getElem?_toArray, List.getElem?_cons_zero, List.getElem?_cons_succ, Sem.run_bind, run_underlying ht, run_underlying ht2, Result.andThen_ok, sizeOf, typeInfo,
  run_program, hi, Sem.run_pure, hz, Bool.false_eq_true, if_false, hs.len, if_pos hroom, Bool.not_false, if_true, hs.cells w rfl, addr_add, hst]

theorem run_app_none (ht : P.underlying t = some (.slice e)) (ht2 : P.underlying t2 = some d2) (hd2 : ∀ k, d2 ≠ .int k) (hi : P.info? e = some i) {v : Value} {news : List Value}
  (hs : Src P w i.size 0 v news) {sLen sCap : Nat} (hroom : sLen ≤ sCap) :
  (Builtin.append_ #[t, t2] ty #[.slice none sLen sCap, v]).run P w = .ok (.slice none sLen sCap) w := by
 have hz : (match d2 with | .int _ => true | _ => false) = false := by cases d2 <;> first | rfl | exact absurd rfl (hd2 _)
 simp only [Builtin.append_, List.getElem?_toArray, List.getElem?_cons_zero, List.getElem?_cons_succ, Sem.run_bind, run_underlying ht, run_underlying ht2, Result.andThen_ok, sizeOf, typeInfo,
  run_program, hi, Sem.run_pure, hz, Bool.false_eq_true, if_false, hs.len, Nat.add_zero, if_pos hroom, Bool.not_false, if_true, hs.cells w rfl]

theorem run_app_grow (ht : P.underlying t = some (.slice e)) (ht2 : P.underlying t2 = some d2) (hd2 : ∀ k, d2 ≠ .int k) (hi : P.info? e = some i) (hz0 : i.zero = some z) {n : Nat} {v : Value} {news : List Value}
  (hs : Src P w i.size n v news) {ao : Option Addr} {sLen sCap : Nat} {olds : List Value} (hroom : ¬ sLen + n ≤ sCap) (hbpos : 0 < i.bytes)
  (hold : ∀ w' : World, w'.heap = w.heap → (Builtin.firstCells i.size sLen (.slice ao sLen sCap)).run P w' = .ok olds.toArray w')
  (hfit : Builtin.nextslicecap (sLen + n) sCap * i.bytes ≤ 281474976710656) :
  (Builtin.append_ #[t, t2] ty #[.slice ao sLen sCap, v]).run P w =
   .ok (.slice (some ⟨w.heap.size, 0, none⟩) (sLen + n) (grownCap w (sLen + n) sCap e))
    (w.drew.alloc (.cells (olds.toArray ++ news.toArray ++ Builtin.zeroCells z.cells (grownCap w (sLen + n) sCap e - (sLen + n))) e)) := by
 have hz : (match d2 with | .int _ => true | _ => false) = false := by cases d2 <;> first | rfl | exact absurd rfl (hd2 _)
 have h48 : ¬ (Builtin.nextslicecap (sLen + n) sCap * i.bytes > 2 ^ 48) := by omega
 have hb0 : ¬ (((sLen + n : Nat) : Int) > IntKind.i64.max ∧ (False ∨ i.bytes = 0)) := by
  rintro ⟨_, h | h⟩
  ·cases h
  ·omega
 have hn := hs.cells { w with drawn := w.drawn + 1 } rfl
 have ho := hold { w with drawn := w.drawn + 1 } rfl
 simp only [Builtin.append_, List.getElem?_toArray, List.getElem?_cons_zero, List.getElem?_cons_succ, Sem.run_bind, run_underlying ht, run_underlying ht2, Result.andThen_ok, sizeOf, typeInfo,
  run_program, hi, Sem.run_pure, hz, Bool.false_eq_true, if_false, hs.len, if_neg hroom, Bool.not_false, if_true, pure_bind, if_neg h48, if_neg hb0, run_choose, Question.forced, run_askRoom, hn, ho,
  zeroValue, hz0, newRow, run_newObj, grownCap, World.drew, World.alloc]

end
end Go.Proofs.YtdcljlafookliaaDoor.AB

