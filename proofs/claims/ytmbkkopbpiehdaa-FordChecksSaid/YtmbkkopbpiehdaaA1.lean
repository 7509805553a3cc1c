/- The texts that this proof leans on, part 1. -/
import GoSem.Step
import Derived.Below
import Derived.Laws.Rows
import Derived.Laws.World
import Derived.Laws.Sem
import Derived.Laws.Cells
import Derived.Laws.Strings
import Derived.Laws.Strings2
import Derived.Laws.Append
import Derived.Laws.CopyRow
import Derived.Calls
import Derived.Laws.StructEq
import Derived.Laws.BytesString
import Derived.Laws.MakeOwn
import Derived.Deep.AppendSrc
/- An abstract machine over values: its data, its operations and its runs. -/
namespace AM
open Go

/-- The data of the abstract machine. 'sl': a slice that nobody writes any more, by its elements' cells. 'own': a part of an array of the heap. 'rptr': an address within an element of a slice that nobody writes any more. -/
inductive D where
  | undef
  | bool (b : Bool)
  | int (k : IntKind) (n : Int)
  | str (s : List UInt8)
  | agg (cs : List D)
  | sl (es : List (List D))
  | nil
  | own (l i off len sz : Nat) (lim : Bool)
  | ptr (l i e j : Nat)
  | rptr (cs : List D) (j : Nat)
  | nilp
  | map (l i : Nat)
  | nilm
  | fn (f : Fn) (first cap : List D)
  | nilf
  | ifc (t : TypeId) (d : D)
  | nili
  | tup (ds : List D)
  deriving Inhabited

/-- An object: a row of elements (a variable is a row of one), a map, or what is no longer to be looked at. -/
inductive Obj where
  | arr (es : List (List D))
  | map (es : List (D × D))
  | dead
  deriving Inhabited

/-- The heap: a list of objects for each frame, the innermost first. -/
abbrev Heap := List (List Obj)
abbrev Env := List (Nat × D)

inductive Ex where
  | normal
  | exit (id : Nat)
  | ret
  deriving DecidableEq, Inhabited

/-! ### Sequencing: only what stands first is looked at by simp -/
section
variable {α β : Type}
def bnd (a : Option α) (f : α → Option β) : Option β :=
  match a with
  | some x => f x
  | none => none
@[congr] theorem bnd_congr {a a' : Option α} (f : α → Option β) (h : a = a') : bnd a f = bnd a' f := by rw [h]
@[simp] theorem bnd_some (x : α) (f : α → Option β) : bnd (some x) f = f x := rfl
@[simp] theorem bnd_none (f : α → Option β) : bnd none f = none := rfl
def brk (c : Bool) (x y : Option β) : Option β :=
  match c with
  | true => x
  | false => y
@[congr] theorem brk_congr {c c' : Bool} (x y : Option β) (h : c = c') : brk c x y = brk c' x y := by rw [h]
@[simp] theorem brk_true (x y : Option β) : brk true x y = x := rfl
@[simp] theorem brk_false (x y : Option β) : brk false x y = y := rfl
def thn (a : Option (Ex × Env × Heap)) (f : Env → Heap → Option (Ex × Env × Heap)) : Option (Ex × Env × Heap) :=
  match a with
  | some (.normal, ρ, h) => f ρ h
  | r => r
@[congr] theorem thn_congr {a a' : Option (Ex × Env × Heap)} (f : Env → Heap → Option (Ex × Env × Heap)) (h : a = a') : thn a f = thn a' f := by rw [h]
@[simp] theorem thn_normal (ρ : Env) (h : Heap) (f : Env → Heap → Option (Ex × Env × Heap)) : thn (some (.normal, ρ, h)) f = f ρ h := rfl
@[simp] theorem thn_ret (ρ : Env) (h : Heap) (f : Env → Heap → Option (Ex × Env × Heap)) : thn (some (.ret, ρ, h)) f = some (.ret, ρ, h) := rfl
@[simp] theorem thn_exit (n : Nat) (ρ : Env) (h : Heap) (f : Env → Heap → Option (Ex × Env × Heap)) : thn (some (.exit n, ρ, h)) f = some (.exit n, ρ, h) := rfl
@[simp] theorem thn_none (f : Env → Heap → Option (Ex × Env × Heap)) : thn none f = none := rfl
end

/-! ### Frames and objects -/
def lk : Env → Nat → Option D
  | [], _ => none
  | (k, d) :: r, n => brk (k == n) (some d) (lk r n)

def putE (ρ : Env) (dst : Option Nat) (d : D) : Env :=
  match dst with
  | some t => (t, d) :: ρ
  | none => ρ

/-- What is still to be looked at. -/
def keep : List Nat → Env → Option Env
  | [], _ => some []
  | k :: r, ρ => bnd (lk ρ k) fun d => bnd (keep r ρ) fun ρ' => some ((k, d) :: ρ')

/-- 'T': how many frames there are. -/
def getO : Nat → Heap → Nat → Nat → Option Obj
  | _, [], _, _ => none
  | T, f :: r, l, i => brk (l + 1 == T) f[i]? (getO (T - 1) r l i)

def setO : Nat → Heap → Nat → Nat → Obj → Heap
  | _, [], _, _, _ => []
  | T, f :: r, l, i, o => bif l + 1 == T then f.set i o :: r else f :: setO (T - 1) r l i o

/-- A new object of a frame: its index. -/
def pushO : Nat → Heap → Nat → Obj → Option (Nat × Heap)
  | _, [], _, _ => none
  | T, f :: r, l, o => brk (l + 1 == T) (some (f.length, (f ++ [o]) :: r)) (bnd (pushO (T - 1) r l o) fun p => some (p.1, f :: p.2))

/-- The level above all that a datum refers to. -/
def D.lvl : D → Nat
  | .own l .. | .ptr l .. | .map l _ => l + 1
  | .agg cs => lvlAll cs
  | .tup ds => lvlAll ds
  | .fn _ a b => Nat.max (lvlAll a) (lvlAll b)
  | .ifc _ d => d.lvl
  | .rptr _ _ => 0
  | _ => 0
where
  lvlAll : List D → Nat
    | [] => 0
    | d :: r => Nat.max d.lvl (lvlAll r)

def D.cells : D → List D
  | .agg cs => cs
  | d => [d]

/-- It fills one cell. -/
def D.one : D → Bool
  | .agg _ | .tup _ | .undef => false
  | _ => true
/-- It can be laid into memory. -/
def D.stb : D → Bool
  | .tup _ | .undef => false
  | _ => true

/-! ### Operations -/
/-- The kind of a cell that is compared. -/
inductive SK where
  | bool | int | str
  deriving DecidableEq, Inhabited
/-- How data of a type are compared. -/
inductive EqT where
  | bool | ptr | sl | map | fn | ifc
  | row (ks : List SK)
  deriving Inhabited
/-- How keys of a type are compared. -/
inductive KT where
  | one (k : SK)
  | row (ks : List SK)
  deriving Inhabited

inductive Opd where
  | t (n : Nat)
  | c (d : D)
  deriving Inhabited

def Opd.ev (ρ : Env) : Opd → Option D
  | .t n => lk ρ n
  | .c d => some d

def evAll (ρ : Env) : List Opd → Option (List D)
  | [] => some []
  | x :: r => bnd (x.ev ρ) fun d => bnd (evAll ρ r) fun ds => some (d :: ds)

inductive AOp where
  | mv (x : Opd)
  | nck (x : Opd)
  | pick (c a b : Opd)
  | box (x : Opd)
  | alloc (z : List D)
  | fa (off : Nat) (x : Opd)
  | ld (n : Option Nat) (x : Opd)
  | st (n : Nat) (a x : Opd)
  | iaA (len sz : Nat) (x i : Opd)
  | iaS (sz : Nat) (x i : Opd)
  | ixS (x i : Opd)
  | ixA (len sz : Nat) (n : Option Nat) (x i : Opd)
  | fld (off : Nat) (n : Option Nat) (x : Opd)
  | build (z : List D) (ps : List (Nat × Nat × Opd))
  | bsl (z : List D) (len : Nat) (ps : List (Nat × Opd))
  | mksl (bytes : Nat) (z : List D) (len cap : Opd)
  | slS (x : Opd) (lo hi : Option Opd)
  | slV (sz : Nat) (x : Opd) (lo hi mx : Option Opd)
  | lenS (x : Opd)
  | lenV (x : Opd)
  | lenM (x : Opd)
  | app (bytes sz : Nat) (s x : Opd)
  | appS (s x : Opd)
  | bin (op : BinOp) (x y : Opd)
  | eq (neg guard : Bool) (t : EqT) (x y : Opd)
  | un (op : UnOp) (x : Opd)
  | cvI (k : IntKind) (x : Opd)
  | cvSS (x : Opd)
  | cvBS (x : Opd)
  | mx (x : Opd) (xs : List Opd)
  | mn (x : Opd) (xs : List Opd)
  | mkf (f : Fn) (first cap : List Opd)
  | mkm
  | look (t : KT) (z : D) (ok : Bool) (m k : Opd)
  | upd (t : KT) (m k x : Opd)
  | del (t : KT) (m k : Opd)
  | mki (t : TypeId) (x : Opd)
  | tas (t : TypeId) (z : D) (ok : Bool) (x : Opd)
  | ext (x : Opd) (i : Nat)
  | call (f : Opd) (args : List Opd) (bar : Bool)
  | inv (x : Opd) (name : String) (args : List Opd) (bar : Bool)
  | bad (why : String)
  deriving Inhabited

structure AOper where
  dst : Option Nat
  op : AOp
  guard : Option (Nat × Bool)
  deriving Inhabited

/-- 'kp': from here on no other temporaries are looked at. -/
inductive ACode where
  | skip
  | reg (ops : List AOper) (draw : Bool)
  | seq (a b : ACode)
  | cond (c : Opd) (x y : ACode)
  | blk (id : Nat) (b : ACode)
  | loop (b : ACode)
  | exit (id : Nat)
  | ret
  | kp (ks : List Nat) (c : ACode)
  | bad (why : String)
  deriving Inhabited

inductive ARes where
  | tmp (t : Nat)
  | cell (t : Nat) (n : Option Nat)
  deriving Inhabited

/-- 'tr': the function works in its caller's frame. -/
structure AFun where
  body : ACode
  res : List ARes
  tr : Bool
  deriving Inhabited

/-! ### Arithmetic -/
def binI (op : BinOp) (k : IntKind) (a b : Int) : Option D :=
  match op with
  | .add => some (.int k (k.wrap (a + b)))
  | .sub => some (.int k (k.wrap (a - b)))
  | .mul => some (.int k (k.wrap (a * b)))
  | .quo => brk (decide (b = 0)) none (some (.int k (k.wrap (a.tdiv b))))
  | .rem => brk (decide (b = 0)) none (some (.int k (a.tmod b)))
  | .and => some (.int k (k.wrap (BitVec.ofInt k.bits a &&& BitVec.ofInt k.bits b).toNat))
  | .or => some (.int k (k.wrap (BitVec.ofInt k.bits a ||| BitVec.ofInt k.bits b).toNat))
  | .xor => some (.int k (k.wrap (BitVec.ofInt k.bits a ^^^ BitVec.ofInt k.bits b).toNat))
  | .andNot => some (.int k (k.wrap (BitVec.ofInt k.bits a &&& ~~~(BitVec.ofInt k.bits b)).toNat))
  | .eql => some (.bool (decide (a = b)))
  | .neq => some (.bool (decide (¬ a = b)))
  | .lss => some (.bool (decide (a < b)))
  | .leq => some (.bool (decide (a ≤ b)))
  | .gtr => some (.bool (decide (a > b)))
  | .geq => some (.bool (decide (a ≥ b)))
  | .shl | .shr => none

def shiftI (op : BinOp) (k : IntKind) (a b : Int) : Option D :=
  brk (decide (b < 0)) none
    (match op with
    | .shl => some (.int k (k.wrap (a * 2 ^ min b.toNat k.bits)))
    | .shr => some (.int k (a.fdiv (2 ^ min b.toNat k.bits)))
    | _ => none)

def lessL : List UInt8 → List UInt8 → Bool
  | _, [] => false
  | [], _ :: _ => true
  | a :: x, b :: y => a < b || (a == b && lessL x y)

def binS (op : BinOp) (a b : List UInt8) : Option D :=
  match op with
  | .add => brk (decide (a.length + b.length ≤ 9223372036854775807)) (some (.str (a ++ b))) none
  | .eql => some (.bool (decide (a = b)))
  | .neq => some (.bool (decide (¬ a = b)))
  | .lss => some (.bool (lessL a b))
  | .leq => some (.bool (lessL a b || decide (a = b)))
  | .gtr => some (.bool !(lessL a b || decide (a = b)))
  | .geq => some (.bool !(lessL a b))
  | _ => none

def binD (op : BinOp) : D → D → Option D
  | .int k a, .int k' b =>
    match op with
    | .shl => shiftI .shl k a b
    | .shr => shiftI .shr k a b
    | op => brk (decide (k = k')) (binI op k a b) none
  | .str a, .str b => binS op a b
  | _, _ => none

/-- Equality of cells. -/
def eqSK : SK → D → D → Option Bool
  | .bool, .bool a, .bool b => some (decide (a = b))
  | .int, .int k a, .int k' b => brk (decide (k = k')) (some (decide (a = b))) none
  | .str, .str a, .str b => some (decide (a = b))
  | _, _, _ => none

def eqL : List SK → List D → List D → Option Bool
  | [], [], [] => some true
  | k :: ks, a :: x, b :: y => bnd (eqSK k a b) fun r => brk r (eqL ks x y) (some false)
  | _, _, _ => none

def eqD (guard : Bool) : EqT → D → D → Option Bool
  | .bool, .bool a, .bool b => some (decide (a = b))
  | .row ks, .agg a, .agg b => brk (decide (a.length = ks.length ∧ b.length = ks.length)) (eqL ks a b) none
  | .ptr, .nilp, .nilp => some true
  | .ptr, .nilp, .ptr .. => some false
  | .ptr, .ptr .., .nilp => some false
  | .sl, .nil, .nil => some true
  | .sl, .nil, .own .. => some false
  | .sl, .own .., .nil => some false
  | .map, .nilm, .nilm => some true
  | .map, .nilm, .map .. => some false
  | .map, .map .., .nilm => some false
  | .fn, .nilf, .nilf => some true
  | .fn, .nilf, .fn .. => some false
  | .fn, .fn .., .nilf => some false
  | .ifc, .nili, .nili => brk guard (some true) none
  | .ifc, .nili, .ifc .. => some false
  | .ifc, .ifc .., .nili => some false
  | _, _, _ => none

/-- Equality of keys. -/
def eqK : KT → D → D → Option Bool
  | .one k, a, b => eqSK k a b
  | .row ks, .agg a, .agg b => brk (decide (a.length = ks.length ∧ b.length = ks.length)) (eqL ks a b) none
  | _, _, _ => none

def unD (op : UnOp) : D → Option D
  | .int k n => match op with
    | .neg => some (.int k (k.wrap (0 - n)))
    | .xor => some (.int k (k.wrap (BitVec.ofInt k.bits (if k.signed then -1 else k.max) ^^^ BitVec.ofInt k.bits n).toNat))
    | _ => none
  | .bool b => match op with
    | .not => some (.bool !b)
    | _ => none
  | _ => none

/-- The cells from an offset on, as the datum of a type: one cell, or a row of n. -/
def partD (cs : List D) (off : Nat) : Option Nat → Option D
  | none => cs[off]?
  | some n => brk (decide (off + n ≤ cs.length)) (some (.agg ((cs.drop off).take n))) none

def putCells (cs : List D) (off : Nat) (new : List D) : List D := cs.take off ++ new ++ cs.drop (off + new.length)

/-- An index in a range; a bound. -/
def inRange (i : Int) (n : Nat) : Option Nat := brk (decide (0 ≤ i ∧ i < n)) (some i.toNat) none
def inBound (i : Int) (n : Nat) : Option Nat := brk (decide (0 ≤ i ∧ i ≤ n)) (some i.toNat) none

def asI : D → Option Int
  | .int _ n => some n
  | _ => none
def asB : D → Option Bool
  | .bool b => some b
  | _ => none

def bound (ρ : Env) (o : Option Opd) (dflt n : Nat) : Option Nat :=
  match o with
  | none => some dflt
  | some x => bnd (x.ev ρ) fun d => bnd (asI d) fun i => inBound i n

def fills (ρ : Env) : List (Nat × Nat × Opd) → List D → Option (List D)
  | [], cs => some cs
  | (off, sz, x) :: r, cs => bnd (x.ev ρ) fun d => brk (d.stb && decide (d.cells.length = sz ∧ off + sz ≤ cs.length)) (fills ρ r (putCells cs off d.cells)) none

def fillEs (ρ : Env) (sz : Nat) : List (Nat × Opd) → List (List D) → Option (List (List D))
  | [], es => some es
  | (i, x) :: r, es => bnd (x.ev ρ) fun d => brk (d.stb && decide (d.cells.length = sz ∧ i < es.length)) (fillEs ρ sz r (es.set i d.cells)) none

def asArr : Obj → Option (List (List D))
  | .arr es => some es
  | _ => none
def asMap : Obj → Option (List (D × D))
  | .map es => some es
  | _ => none

def rowsOk (sz : Nat) (es : List (List D)) : Bool := es.all fun cs => cs.length == sz

/-- The elements of a slice. -/
def elems (T : Nat) (h : Heap) : D → Option (List (List D))
  | .nil => some []
  | .sl es => some es
  | .own l i off len _ _ => bnd (getO T h l i) fun o => bnd (asArr o) fun es => brk (decide (off + len ≤ es.length)) (some ((es.drop off).take len)) none
  | _ => none

/-- A store into an object of level l is let by the barrier, and refers to nothing that will go before it. -/
def may (bar l : Nat) (d : D) : Bool := decide (bar ≤ l) && decide (d.lvl ≤ l + 1)

def newO (T : Nat) (h : Heap) (l : Nat) (o : Obj) (mk : Nat → D) : Option (D × Heap) :=
  bnd (pushO T h l o) fun p => some (mk p.1, p.2)

def lvlEs : List (List D) → Nat
  | [] => 0
  | cs :: r => Nat.max (D.lvl.lvlAll cs) (lvlEs r)

/-- Elements of a slice that nobody writes: nothing in them refers to an object. -/
def lvlOf (h : D) (es : List (List D)) : Nat :=
  match h with
  | .sl _ => 0
  | _ => lvlEs es

/-- 'append' of elements: 'lv' is the level above all that they refer to. -/
def appendD (bar T bytes sz : Nat) (h : Heap) (s : D) (new : List (List D)) (lv : Nat) : Option (D × Heap) :=
  match s with
  | .nil => brk (new.isEmpty) (some (.nil, h))
      (brk (rowsOk sz new && decide (lv ≤ T ∧ new.length * bytes ≤ 140737488355328)) (newO T h (T - 1) (.arr new) fun i => .own (T - 1) i 0 new.length sz false) none)
  | .sl es => brk (new.isEmpty) (some (.sl es, h)) none
  | .own l i off len sz' lim => bnd (getO T h l i) fun o => bnd (asArr o) fun es =>
      brk (!lim && (sz' == sz) && rowsOk sz new && decide (bar ≤ l ∧ off + len ≤ es.length ∧ lv ≤ l + 1))
        (brk (decide (off + len + new.length ≤ es.length))
          (some (.own l i off (len + new.length) sz false, setO T h l i (.arr (es.take (off + len) ++ new ++ es.drop (off + len + new.length)))))
          (brk (decide ((len + new.length) * bytes ≤ 140737488355328))
            (newO T (setO T h l i .dead) l (.arr ((es.drop off).take len ++ new)) fun i' => .own l i' 0 (len + new.length) sz false)
            none))
        none
  | _ => none

/-- The first entry with a key: its place and value. -/
def findK (t : KT) (k : D) : List (D × D) → Nat → Option (Option (Nat × D))
  | [], _ => some none
  | (k', v) :: r, i => bnd (eqK t k k') fun b => brk b (some (some (i, v))) (findK t k r (i + 1))
/-- A key of the kind. -/
def okK (t : KT) (k : D) : Bool := (eqK t k k).isSome

def asChars : List (List D) → Option (List UInt8)
  | [] => some []
  | [.int .u8 n] :: r => bnd (asChars r) fun s => some (UInt8.ofNat n.toNat :: s)
  | _ => none

def chars (s : List UInt8) : List (List D) := s.map fun b => [.int .u8 b.toNat]

def maxL : Int → List D → Option Int
  | a, [] => some a
  | a, .int _ b :: r => maxL (if b > a then b else a) r
  | _, _ => none
def minL : Int → List D → Option Int
  | a, [] => some a
  | a, .int _ b :: r => minL (if b < a then b else a) r
  | _, _ => none

def asStr : D → Option (List UInt8)
  | .str s => some s
  | _ => none
def asAgg : D → Option (List D)
  | .agg s => some s
  | _ => none

/-! One operation, by its operands' data. -/
def nckD : D → Option D
  | .ptr l i e j => some (.ptr l i e j)
  | .rptr cs j => some (.rptr cs j)
  | .fn (.func f) a b => some (.fn (.func f) a b)
  | _ => none
def faD (off : Nat) : D → Option D
  | .ptr l i e j => some (.ptr l i e (j + off))
  | .rptr cs j => some (.rptr cs (j + off))
  | _ => none
def ldD (T : Nat) (h : Heap) (n : Option Nat) : D → Option D
  | .ptr l i e j => bnd (getO T h l i) fun o => bnd (asArr o) fun es => bnd es[e]? fun cs => partD cs j n
  | .rptr cs j => partD cs j n
  | _ => none
def stD (bar T : Nat) (h : Heap) (n : Nat) (d : D) : D → Option (D × Heap)
  | .ptr l i e j => bnd (getO T h l i) fun o => bnd (asArr o) fun es => bnd es[e]? fun cs =>
      brk (d.stb && may bar l d && decide (d.cells.length = n ∧ j + n ≤ cs.length)) (some (.undef, setO T h l i (.arr (es.set e (putCells cs j d.cells))))) none
  | _ => none
def iaAD (len sz : Nat) (n : Int) : D → Option D
  | .ptr l k e j => bnd (inRange n len) fun m => some (.ptr l k e (j + m * sz))
  | .rptr cs j => bnd (inRange n len) fun m => some (.rptr cs (j + m * sz))
  | _ => none
def iaSD (sz : Nat) (n : Int) : D → Option D
  | .sl es => bnd (inRange n es.length) fun m => bnd es[m]? fun cs => brk (cs.length == sz) (some (.rptr cs 0)) none
  | .own l k off len sz' _ => bnd (inRange n len) fun m => brk (sz' == sz) (some (.ptr l k (off + m) 0)) none
  | _ => none
def slVD (T sz : Nat) (h : Heap) (ρ : Env) (lo hi mx : Option Opd) : D → Option D
  | .sl es => match mx with
    | some _ => none
    | none => bnd (bound ρ hi es.length es.length) fun b => bnd (bound ρ lo 0 b) fun a => brk (rowsOk sz es) (some (.sl ((es.take b).drop a))) none
  | .nil => match mx with
    | some _ => none
    | none => bnd (bound ρ hi 0 0) fun _ => bnd (bound ρ lo 0 0) fun _ => some .nil
  | .own l i off len sz' lim => brk (sz' == sz) (bnd (getO T h l i) fun o => bnd (asArr o) fun es =>
    match mx with
    | none => bnd (bound ρ hi len (es.length - off)) fun b => bnd (bound ρ lo 0 b) fun a => brk (lim && decide (len < b)) none (some (.own l i (off + a) (b - a) sz lim))
    | some m => brk hi.isSome (bnd (bound ρ (some m) 0 (es.length - off)) fun m' => bnd (bound ρ hi 0 m') fun b => bnd (bound ρ lo 0 b) fun a => brk lim none (some (.own l i (off + a) (b - a) sz true))) none) none
  | _ => none
def lenSD : D → Option D
  | .str s => some (.int .i64 s.length)
  | _ => none
def lenVD : D → Option D
  | .sl es => some (.int .i64 es.length)
  | .nil => some (.int .i64 0)
  | .own _ _ _ len _ _ => some (.int .i64 len)
  | _ => none
def lenMD (T : Nat) (h : Heap) : D → Option D
  | .nilm => some (.int .i64 0)
  | .map l i => bnd (getO T h l i) fun o => bnd (asMap o) fun es => some (.int .i64 es.length)
  | _ => none
def okD (ok : Bool) (v : D) (b : Bool) : D := bif ok then .tup [v, .bool b] else v
def lookD (T : Nat) (h : Heap) (t : KT) (z : D) (ok : Bool) (k : D) : D → Option D
  | .nilm => brk (okK t k) (some (okD ok z false)) none
  | .map l i => bnd (getO T h l i) fun o => bnd (asMap o) fun es => brk (okK t k) (bnd (findK t k es 0) fun
    | some (_, v) => some (okD ok v true)
    | none => some (okD ok z false)) none
  | _ => none
def updD (bar T : Nat) (h : Heap) (t : KT) (k d : D) : D → Option (D × Heap)
  | .map l i => bnd (getO T h l i) fun o => bnd (asMap o) fun es => brk (may bar l d && decide (k.lvl = 0) && okK t k) (bnd (findK t k es 0) fun
    | some (p, _) => some (.undef, setO T h l i (.map (es.set p (k, d))))
    | none => some (.undef, setO T h l i (.map (es ++ [(k, d)])))) none
  | _ => none
def delD (bar T : Nat) (h : Heap) (t : KT) (k : D) : D → Option (D × Heap)
  | .map l i => bnd (getO T h l i) fun o => bnd (asMap o) fun es => brk (decide (bar ≤ l) && okK t k) (bnd (findK t k es 0) fun
    | some (p, _) => some (.undef, setO T h l i (.map (es.eraseIdx p)))
    | none => some (.undef, setO T h l i (.map es))) none
  | _ => none
def tasD (t : TypeId) (z : D) (ok : Bool) : D → Option D
  | .ifc u d => brk (u == t) (some (okD ok d true)) (brk ok (some (.tup [z, .bool false])) none)
  | .nili => brk ok (some (.tup [z, .bool false])) none
  | _ => none
def extD (i : Nat) : D → Option D
  | .tup ds => ds[i]?
  | _ => none
def mxD : D → List D → Option D
  | .int k a, ds => bnd (maxL a ds) fun m => some (.int k m)
  | _, _ => none
def mnD : D → List D → Option D
  | .int k a, ds => bnd (minL a ds) fun m => some (.int k m)
  | _, _ => none
def mkslD (T bytes : Nat) (h : Heap) (z : List D) (n m : Int) : Option (D × Heap) :=
  brk (decide (0 ≤ n ∧ n ≤ m ∧ m * bytes ≤ 140737488355328 ∧ m ≤ 9223372036854775807))
    (brk (decide (n = m)) (newO T h (T - 1) (.arr (List.replicate n.toNat z)) fun i => .own (T - 1) i 0 n.toNat z.length false)
      (brk (decide (n = 0)) (newO T h (T - 1) (.arr []) fun i => .own (T - 1) i 0 0 z.length false) none))
    none

/-- One operation that calls nothing. -/
def step (bar T : Nat) (o : AOp) (ρ : Env) (h : Heap) : Option (D × Heap) :=
  match o with
  | .mv x => bnd (x.ev ρ) fun d => some (d, h)
  | .nck x => bnd (x.ev ρ) fun d => bnd (nckD d) fun r => some (r, h)
  | .pick c a b => bnd (c.ev ρ) fun d => bnd (asB d) fun t => bnd (brk t (a.ev ρ) (b.ev ρ)) fun r => some (r, h)
  | .box x => bnd (x.ev ρ) fun d => brk (d.stb && decide (d.lvl ≤ T)) (newO T h (T - 1) (.arr [d.cells]) fun i => .ptr (T - 1) i 0 0) none
  | .alloc z => newO T h (T - 1) (.arr [z]) fun i => .ptr (T - 1) i 0 0
  | .fa off x => bnd (x.ev ρ) fun d => bnd (faD off d) fun r => some (r, h)
  | .ld n x => bnd (x.ev ρ) fun d => bnd (ldD T h n d) fun r => some (r, h)
  | .st n a x => bnd (a.ev ρ) fun p => bnd (x.ev ρ) fun d => stD bar T h n d p
  | .iaA len sz x i => bnd (x.ev ρ) fun d => bnd (i.ev ρ) fun e => bnd (asI e) fun n => bnd (iaAD len sz n d) fun r => some (r, h)
  | .iaS sz x i => bnd (x.ev ρ) fun d => bnd (i.ev ρ) fun e => bnd (asI e) fun n => bnd (iaSD sz n d) fun r => some (r, h)
  | .ixS x i => bnd (x.ev ρ) fun d => bnd (asStr d) fun s => bnd (i.ev ρ) fun e => bnd (asI e) fun n => bnd (inRange n s.length) fun m => bnd s[m]? fun b => some (.int .u8 b.toNat, h)
  | .ixA len sz n x i => bnd (x.ev ρ) fun d => bnd (asAgg d) fun cs => bnd (i.ev ρ) fun e => bnd (asI e) fun k => bnd (inRange k len) fun m => bnd (partD cs (m * sz) n) fun r => some (r, h)
  | .fld off n x => bnd (x.ev ρ) fun d => bnd (asAgg d) fun cs => bnd (partD cs off n) fun r => some (r, h)
  | .build z ps => bnd (fills ρ ps z) fun cs => some (.agg cs, h)
  | .bsl z len ps => bnd (fillEs ρ z.length ps (List.replicate len z)) fun es => brk (decide (lvlEs es ≤ T ∧ len * z.length ≤ 16777216)) (newO T h (T - 1) (.arr es) fun i => .own (T - 1) i 0 len z.length false) none
  | .mksl bytes z len cap => bnd (len.ev ρ) fun d => bnd (asI d) fun n => bnd (cap.ev ρ) fun e => bnd (asI e) fun m => mkslD T bytes h z n m
  | .slS x lo hi => bnd (x.ev ρ) fun d => bnd (asStr d) fun s => bnd (bound ρ hi s.length s.length) fun b => bnd (bound ρ lo 0 b) fun a => some (.str ((s.take b).drop a), h)
  | .slV sz x lo hi mx => bnd (x.ev ρ) fun d => bnd (slVD T sz h ρ lo hi mx d) fun r => some (r, h)
  | .lenS x => bnd (x.ev ρ) fun d => bnd (lenSD d) fun r => some (r, h)
  | .lenV x => bnd (x.ev ρ) fun d => bnd (lenVD d) fun r => some (r, h)
  | .lenM x => bnd (x.ev ρ) fun d => bnd (lenMD T h d) fun r => some (r, h)
  | .app bytes sz s x => bnd (s.ev ρ) fun d => bnd (x.ev ρ) fun y => bnd (elems T h y) fun new => appendD bar T bytes sz h d new (lvlOf y new)
  | .appS s x => bnd (s.ev ρ) fun d => bnd (x.ev ρ) fun y => bnd (asStr y) fun t => appendD bar T 1 1 h d (chars t) 0
  | .bin op x y => bnd (x.ev ρ) fun a => bnd (y.ev ρ) fun b => bnd (binD op a b) fun r => some (r, h)
  | .eq neg guard t x y => bnd (x.ev ρ) fun a => bnd (y.ev ρ) fun b => bnd (eqD guard t a b) fun r => some (.bool (bif neg then !r else r), h)
  | .un op x => bnd (x.ev ρ) fun d => bnd (unD op d) fun r => some (r, h)
  | .cvI k x => bnd (x.ev ρ) fun d => bnd (asI d) fun n => some (.int k (k.wrap n), h)
  | .cvSS x => bnd (x.ev ρ) fun d => bnd (asStr d) fun s => some (.str s, h)
  | .cvBS x => bnd (x.ev ρ) fun d => bnd (elems T h d) fun es => bnd (asChars es) fun s => some (.str s, h)
  | .mx x xs => bnd (x.ev ρ) fun d => bnd (evAll ρ xs) fun ds => bnd (mxD d ds) fun r => some (r, h)
  | .mn x xs => bnd (x.ev ρ) fun d => bnd (evAll ρ xs) fun ds => bnd (mnD d ds) fun r => some (r, h)
  | .mkf f first cap => bnd (evAll ρ first) fun a => bnd (evAll ρ cap) fun b => some (.fn f a b, h)
  | .mkm => newO T h (T - 1) (.map []) fun i => .map (T - 1) i
  | .look t z ok m k => bnd (m.ev ρ) fun d => bnd (k.ev ρ) fun kd => bnd (lookD T h t z ok kd d) fun r => some (r, h)
  | .upd t m k x => bnd (m.ev ρ) fun d => bnd (k.ev ρ) fun kd => bnd (x.ev ρ) fun v => updD bar T h t kd v d
  | .del t m k => bnd (m.ev ρ) fun d => bnd (k.ev ρ) fun kd => delD bar T h t kd d
  | .mki t x => bnd (x.ev ρ) fun d => some (.ifc t d, h)
  | .tas t z ok x => bnd (x.ev ρ) fun d => bnd (tasD t z ok d) fun r => some (r, h)
  | .ext x i => bnd (x.ev ρ) fun d => bnd (extD i d) fun r => some (r, h)
  | .call .. | .inv .. | .bad _ => none

/-! ### Runs -/

/-- Whether an operation is carried out: its guard. -/
def guardB (d : D) (b : Bool) : Bool :=
  match d with
  | .bool c => bif b then c else !c
  | _ => false
def wanted (ρ : Env) : Option (Nat × Bool) → Option Bool
  | none => some true
  | some (t, b) => bnd (lk ρ t) fun d => some (guardB d b)

/-- What leaves a frame (of which there are T): rows of its own become slices by their elements; nothing that refers to the frame may leave. -/
def frz (T : Nat) (h : Heap) : Nat → D → Option D
  | 0, _ => none
  | n + 1, d => match d with
    | .own l i off len sz lim => brk (l + 1 == T)
        (bnd (getO T h l i) fun o => bnd (asArr o) fun es => brk (decide (off + len ≤ es.length)) (bnd (frzEs T h n ((es.drop off).take len)) fun r => some (.sl r)) none)
        (some (.own l i off len sz lim))
    | .nil => some (.sl [])
    | .ptr l i e j => brk (decide (l + 1 < T)) (some (.ptr l i e j)) none
    | .map l i => brk (decide (l + 1 < T)) (some (.map l i)) none
    | .agg cs => bnd (frzAll T h n cs) fun r => some (.agg r)
    | .tup cs => bnd (frzAll T h n cs) fun r => some (.tup r)
    | .fn f a b => bnd (frzAll T h n a) fun a' => bnd (frzAll T h n b) fun b' => some (.fn f a' b')
    | .ifc t e => bnd (frz T h n e) fun e' => some (.ifc t e')
    | .rptr cs j => some (.rptr cs j)
    | .undef => some .undef
    | .bool b => some (.bool b)
    | .int k n => some (.int k n)
    | .str s => some (.str s)
    | .sl es => some (.sl es)
    | .nilp => some .nilp
    | .nilm => some .nilm
    | .nilf => some .nilf
    | .nili => some .nili
where
  frzAll (T : Nat) (h : Heap) (n : Nat) : List D → Option (List D)
    | [] => some []
    | d :: r => bnd (frz T h n d) fun d' => bnd (frzAll T h n r) fun r' => some (d' :: r')
  /-- Elements: nothing in them may refer to an object. -/
  frzEs (T : Nat) (h : Heap) (n : Nat) : List (List D) → Option (List (List D))
    | [] => some []
    | cs :: r => bnd (frzAll T h n cs) fun c => brk (D.lvl.lvlAll c == 0) (bnd (frzEs T h n r) fun r' => some (c :: r')) none

def resD (T : Nat) (ρ : Env) (h : Heap) : List ARes → Option (List D)
  | [] => some []
  | .tmp t :: r => bnd (lk ρ t) fun d => bnd (resD T ρ h r) fun ds => some (d :: ds)
  | .cell t n :: r => bnd (lk ρ t) fun p => bnd (ldD T h n p) fun d => bnd (resD T ρ h r) fun ds => some (d :: ds)

def tupD : List D → D
  | [d] => d
  | ds => .tup ds

structure Prog where
  fn : FuncId → Option AFun
  /-- Functions whose answers are told otherwise. -/
  orc : FuncId → Option (List D → Option D)
  /-- The method of a dynamic type that takes its receiver as it is. -/
  meth : TypeId → String → Option FuncId

def argEnv : List D → Nat → Env
  | [], _ => []
  | d :: r, i => (i, d) :: argEnv r (i + 1)

/-- How calls and loops come out. -/
structure Mch where
  call : Nat → Nat → FuncId → List D → Heap → Option (D × Heap)
  lp : Nat → Nat → ACode → Env → Heap → Option (Ex × Env × Heap)

section
variable (A : Prog) (S : Mch)

def callFn (bar T : Nat) (g : Fn) (args cap : List D) (h : Heap) : Option (D × Heap) :=
  match g with
  | .func f => S.call bar T f (args ++ cap) h
  | .method name => match args with
    | .ifc t d :: ds => bnd (A.meth t name) fun f => S.call bar T f (d :: ds) h
    | _ => none
  | _ => none

def callDD (bar T : Nat) (d : D) (ds : List D) (h : Heap) : Option (D × Heap) :=
  match d with
  | .fn g first cap => callFn A S bar T g (first ++ ds) cap h
  | _ => none
def invDD (bar T : Nat) (name : String) (d : D) (ds : List D) (h : Heap) : Option (D × Heap) :=
  match d with
  | .ifc t r => bnd (A.meth t name) fun f => S.call bar T f (r :: ds) h
  | _ => none

def opD (bar T : Nat) (o : AOp) (ρ : Env) (h : Heap) : Option (D × Heap) :=
  match o with
  | .call f args b => bnd (f.ev ρ) fun d => bnd (evAll ρ args) fun ds => callDD A S (bif b then T else bar) T d ds h
  | .inv x name args b => bnd (x.ev ρ) fun d => bnd (evAll ρ args) fun ds => invDD A S (bif b then T else bar) T name d ds h
  | o => step bar T o ρ h

def opsD (bar T : Nat) : List AOper → Env → Heap → Option (Env × Heap)
  | [], ρ, h => some (ρ, h)
  | o :: r, ρ, h => bnd (wanted ρ o.guard) fun b => brk b
      (bnd (opD A S bar T o.op ρ h) fun p => opsD bar T r (putE ρ o.dst p.1) p.2)
      (opsD bar T r (putE ρ o.dst .undef) h)

def inBlk (id : Nat) (r : Option (Ex × Env × Heap)) : Option (Ex × Env × Heap) :=
  match r with
  | some (.exit id', ρ, h) => brk (id' == id) (some (.normal, ρ, h)) (some (.exit id', ρ, h))
  | r => r

def exec (bar T : Nat) : ACode → Env → Heap → Option (Ex × Env × Heap)
  | .skip, ρ, h => some (.normal, ρ, h)
  | .reg ops _, ρ, h => bnd (opsD A S bar T ops ρ h) fun p => some (.normal, p.1, p.2)
  | .seq a b, ρ, h => thn (exec bar T a ρ h) fun ρ' h' => exec bar T b ρ' h'
  | .cond c x y, ρ, h => bnd (c.ev ρ) fun d => bnd (asB d) fun t => brk t (exec bar T x ρ h) (exec bar T y ρ h)
  | .blk id b, ρ, h => inBlk id (exec bar T b ρ h)
  | .loop b, ρ, h => S.lp bar T b ρ h
  | .exit id, ρ, h => some (.exit id, ρ, h)
  | .ret, ρ, h => some (.ret, ρ, h)
  | .kp ks c, ρ, h => bnd (keep ks ρ) fun ρ' => exec bar T c ρ' h
  | .bad _, _, _ => none

/-- A function's end: its results. -/
def endD (T : Nat) (res : List ARes) (tr : Bool) (r : Option (Ex × Env × Heap)) : Option (D × Heap) :=
  bnd r fun p => match p.1 with
    | .exit _ => none
    | _ => bnd (resD T p.2.1 p.2.2 res) fun ds => brk tr (some (tupD ds, p.2.2)) (bnd (frz T p.2.2 50 (tupD ds)) fun d => some (d, p.2.2.tail))

def callB (bar T : Nat) (f : FuncId) (args : List D) (h : Heap) : Option (D × Heap) :=
  match A.orc f with
  | some o => bnd (o args) fun d => some (d, h)
  | none => bnd (A.fn f) fun fn => brk fn.tr
      (brk (decide (bar < T)) (endD T fn.res true (exec A S bar T fn.body (argEnv args 0) h)) none)
      (endD (T + 1) fn.res false (exec A S bar (T + 1) fn.body (argEnv args 0) ([] :: h)))

def lpB (bar T : Nat) (b : ACode) (ρ : Env) (h : Heap) : Option (Ex × Env × Heap) :=
  thn (exec A S bar T b ρ h) fun ρ' h' => S.lp bar T b ρ' h'

structure Fix : Prop where
  call : ∀ bar T f args h, S.call bar T f args h = callB A S bar T f args h
  lp : ∀ bar T b ρ h, S.lp bar T b ρ h = lpB A S bar T b ρ h
end

/-- Runs of bounded depth. -/
def Mch.none' : Mch := ⟨fun _ _ _ _ _ => none, fun _ _ _ _ _ => none⟩
def iter (A : Prog) : Nat → Mch
  | 0 => Mch.none'
  | n + 1 => ⟨callB A (iter A n), lpB A (iter A n)⟩

end AM
namespace AM
open Go

def ofV : Value → Option D
  | .bool b => some (.bool b)
  | .int k n => some (.int k n)
  | .string s => some (.str s.data.toList)
  | .slice none 0 0 => some .nil
  | .pointer none => some .nilp
  | .map none => some .nilm
  | .nilFunc => some .nilf
  | .nilIface => some .nili
  | _ => none

def ofVs : List Value → Option (List D)
  | [] => some []
  | v :: r => match ofV v, ofVs r with
    | some d, some ds => some (d :: ds)
    | _, _ => none

def ofW : Value → Option D
  | .agg cs => (ofVs cs.toList).map .agg
  | v => ofV v

def cOpd : Operand → Option Opd
  | .tmp t => some (.t t)
  | .const v => (ofW v).map .c
  | .func f => some (.c (.fn (.func f) [] []))
  | .global _ => none

def cOpds : List Operand → Option (List Opd)
  | [] => some []
  | x :: r => match cOpd x, cOpds r with
    | some d, some ds => some (d :: ds)
    | _, _ => none

def cOpt : Option Operand → Option (Option Opd)
  | none => some none
  | some x => (cOpd x).map some

section
variable (P : Program)

def sizeT (t : TypeId) : Option Nat := (P.info? t).map (·.size)
def bytesT (t : TypeId) : Option Nat := (P.info? t).map (·.bytes)
/-- How a variable of a type is loaded: one cell, or a row. -/
def shapeT (t : TypeId) : Option (Option Nat) :=
  match P.underlying t, P.info? t with
  | some (.struct _), some i | some (.array _ _), some i => some (some i.size)
  | some _, some i => if i.size = 1 then some none else none
  | _, _ => none
def zeroT (t : TypeId) : Option D := ((P.info? t).bind (·.zero)).bind ofW
def zeroCellsT (t : TypeId) : Option (List D) := (zeroT P t).map D.cells

def skT (t : TypeId) : Option SK :=
  match P.underlying t with
  | some .bool => some .bool
  | some (.int _) => some .int
  | some .string => some .str
  | _ => none
/-- The fields of a struct lie one behind the other. -/
def rowFs (f : TypeId → Option (List SK)) : List Field → Nat → Option (List SK)
  | [], _ => some []
  | fd :: r, off => if fd.name != "_" ∧ fd.offset = off then
      match f fd.type with
      | some ks => match sizeT P fd.type, rowFs f r (off + ks.length) with
        | some n, some rs => if n = ks.length then some (ks ++ rs) else none
        | _, _ => none
      | none => none
      else none
def rowAs (ks : List SK) : Nat → List SK
  | 0 => []
  | n + 1 => ks ++ rowAs ks n
/-- The cells of a type that is compared cell by cell. -/
def rowT : Nat → TypeId → Option (List SK)
  | 0, _ => none
  | n + 1, t => match P.underlying t with
    | some (.struct fs) => if P.stoodInHeld t then none else rowFs P (rowT n) fs.toList 0
    | some (.array len e) => match rowT n e, sizeT P e with
      | some ks, some s => if s = ks.length then some (rowAs ks len) else none
      | _, _ => none
    | _ => (skT P t).map fun k => [k]
def keyT (t : TypeId) : Option KT :=
  match P.underlying t with
  | some (.struct _) | some (.array _ _) => (rowT P 20 t).map .row
  | _ => (skT P t).map .one

def isConst : Operand → Bool
  | .const _ => true
  | _ => false

def eqT (t : TypeId) : Option EqT :=
  match P.underlying t with
  | some (.struct _) | some (.array _ _) => if P.eqGuardType P.depth t then none else (rowT P 20 t).map .row
  | some .bool => some .bool
  | some (.pointer _) => some .ptr
  | some (.slice _) => some .sl
  | some (.map _ _) => some .map
  | some (.func ..) => some .fn
  | some (.interface _) => some .ifc
  | _ => none

def cParts (f : Nat → Option (Nat × Nat)) : List (Nat × Operand) → Option (List (Nat × Nat × Opd))
  | [] => some []
  | (i, x) :: r => match f i, cOpd x, cParts f r with
    | some (off, sz), some y, some ys => some ((off, sz, y) :: ys)
    | _, _, _ => none

def cOp (o : Op) : Option AOp :=
  match o with
  | .move x | .assign x => (cOpd x).map .mv
  | .nilCheck x => (cOpd x).map .nck
  | .pick c a b => do some (.pick (← cOpd c) (← cOpd a) (← cOpd b))
  | .box _ x => (cOpd x).map .box
  | .alloc t => (zeroCellsT P t).map .alloc
  | .fieldAddr s x f => match P.underlying s with
    | some (.struct fs) => match fs[f]? with
      | some fd => match sizeT P fd.type with
        | some n => if n = 0 then none else (cOpd x).map (.fa fd.offset)
        | none => none
      | none => none
    | _ => none
  | .load t x => do some (.ld (← shapeT P t) (← cOpd x))
  | .store t a x => do some (.st (← sizeT P t) (← cOpd a) (← cOpd x))
  | .indexAddr t x i => match P.underlying t with
    | some (.array len e) => do some (.iaA len (← sizeT P e) (← cOpd x) (← cOpd i))
    | some (.slice e) => do some (.iaS (← sizeT P e) (← cOpd x) (← cOpd i))
    | _ => none
  | .index t x i => match P.underlying t with
    | some (.array len e) => do some (.ixA len (← sizeT P e) (← shapeT P e) (← cOpd x) (← cOpd i))
    | some .string => do some (.ixS (← cOpd x) (← cOpd i))
    | _ => none
  | .field t x f => match P.underlying t with
    | some (.struct fs) => match fs[f]? with
      | some fd => do some (.fld fd.offset (← shapeT P fd.type) (← cOpd x))
      | none => none
    | _ => none
  | .build t ps => match P.underlying t with
    | some (.struct fs) => if fs.toList.all (fun f => (sizeT P f.type).isSome) = false then none else do some (.build (← zeroCellsT P t) (← cParts (fun i => (fs[i]?).bind fun f => (sizeT P f.type).map fun n => (f.offset, n)) ps.toList))
    | some (.array _ e) => do
      let n ← sizeT P e
      some (.build (← zeroCellsT P t) (← cParts (fun i => some (i * n, n)) ps.toList))
    | _ => none
  | .buildSlice t len ps => match P.underlying t with
    | some (.slice e) => do
      let z ← zeroCellsT P e
      if z.length = 0 ∨ sizeT P e ≠ some z.length then none else
      some (.bsl z len (← (cParts (fun i => some (i, 0)) ps.toList).map fun l => l.map fun (i, _, x) => (i, x)))
    | _ => none
  | .makeSlice t l c => match P.underlying t with
    | some (.slice e) => do
      let z ← zeroCellsT P e
      if z.length = 0 ∨ sizeT P e ≠ some z.length then none else some (.mksl (← bytesT P e) z (← cOpd l) (← cOpd c))
    | _ => none
  | .slice t x lo hi mx => match P.underlying t with
    | some .string => match mx with
      | none => do some (.slS (← cOpd x) (← cOpt lo) (← cOpt hi))
      | some _ => none
    | some (.slice e) => do some (.slV (← sizeT P e) (← cOpd x) (← cOpt lo) (← cOpt hi) (← cOpt mx))
    | _ => none
  | .binOp op t x y _ => match P.underlying t with
    | some (.int _) | some .string => do some (.bin op (← cOpd x) (← cOpd y))
    | _ => match op with
      | .eql => do some (.eq false (isConst x || isConst y) (← eqT P t) (← cOpd x) (← cOpd y))
      | .neq => do some (.eq true (isConst x || isConst y) (← eqT P t) (← cOpd x) (← cOpd y))
      | _ => none
  | .unOp op _ x => (cOpd x).map (.un op)
  | .convert s t x => match P.underlying s, P.underlying t with
    | some (.int _), some (.int k) => (cOpd x).map (.cvI k)
    | some .string, some .string => (cOpd x).map .cvSS
    | some (.slice e), some .string => match P.underlying e with
      | some (.int .u8) => (cOpd x).map .cvBS
      | _ => none
    | _, _ => none
  | .makeInterface t x => match P.underlying t with
    | some (.interface _) => none
    | some _ => (cOpd x).map (.mki t)
    | none => none
  | .makeFunc f a b => do some (.mkf f (← cOpds a.toList) (← cOpds b.toList))
  | .makeMap _ none => some .mkm
  | .lookup t m k ok => match P.underlying t with
    | some (.map kt e) => do some (.look (← keyT P kt) (← zeroT P e) ok (← cOpd m) (← cOpd k))
    | _ => none
  | .mapUpdate t m k x => match P.underlying t with
    | some (.map kt _) => do some (.upd (← keyT P kt) (← cOpd m) (← cOpd k) (← cOpd x))
    | _ => none
  | .typeAssert x _ t ok => match P.underlying t with
    | some (.interface _) => none
    | some _ => do some (.tas t (← zeroT P t) ok (← cOpd x))
    | none => none
  | .extract x i => (cOpd x).map (.ext · i)
  | .call c => match c.callee with
    | .value f => do some (.call (← cOpd f) (← cOpds c.args.toList) false)
    | .invoke x name => do some (.inv (← cOpd x) name (← cOpds c.args.toList) false)
    | .builtin b => match b, c.args.toList with
      | .len, [x] => match (c.argTypes[0]?).bind P.underlying with
        | some .string => (cOpd x).map .lenS
        | some (.slice _) => (cOpd x).map .lenV
        | some (.map _ _) => (cOpd x).map .lenM
        | _ => none
      | .append, [s, x] => match (c.argTypes[0]?).bind P.underlying, (c.argTypes[1]?).bind P.underlying with
        | some (.slice e), some (.slice _) => do
          let z ← zeroCellsT P e
          let n ← sizeT P e
          let b ← bytesT P e
          if z.length = 0 ∨ z.length ≠ n ∨ b = 0 then none else some (.app b n (← cOpd s) (← cOpd x))
        | some (.slice e), some .string => do
          let z ← zeroCellsT P e
          let n ← sizeT P e
          let b ← bytesT P e
          if z.length ≠ 1 ∨ n ≠ 1 ∨ b ≠ 1 then none else some (.appS (← cOpd s) (← cOpd x))
        | _, _ => none
      | .delete, [m, k] => match (c.argTypes[0]?).bind P.underlying with
        | some (.map kt _) => do some (.del (← keyT P kt) (← cOpd m) (← cOpd k))
        | _ => none
      | .max, x :: xs => do some (.mx (← cOpd x) (← cOpds xs))
      | .min, x :: xs => do some (.mn (← cOpd x) (← cOpds xs))
      | _, _ => none
  | _ => none

/-- What an operation does to the heap: 0 nothing, 1 looks at it, 2 changes it, 3 makes an object. -/
def AOp.act : AOp → Nat
  | .ld .. | .slV .. | .look .. | .lenM .. | .cvBS .. => 1
  | .st .. | .app .. | .appS .. | .upd .. | .del .. => 2
  | .box .. | .alloc .. | .bsl .. | .mksl .. | .mkm => 3
  | .call _ _ b | .inv _ _ _ b => if b then 1 else 2
  | _ => 0

def AOp.barred : AOp → AOp
  | .call f a _ => .call f a true
  | .inv x n a _ => .inv x n a true
  | o => o

/-- What an operation looks at. -/
def Opd.us : Opd → List Nat
  | .t n => [n]
  | .c _ => []
def usAll : List Opd → List Nat
  | [] => []
  | x :: r => x.us ++ usAll r
def usOpt : Option Opd → List Nat
  | none => []
  | some x => x.us
def usP2 : List (Nat × Opd) → List Nat
  | [] => []
  | (_, x) :: r => x.us ++ usP2 r
def usP3 : List (Nat × Nat × Opd) → List Nat
  | [] => []
  | (_, _, x) :: r => x.us ++ usP3 r
def AOp.us : AOp → List Nat
  | .mv x => x.us
  | .nck x => x.us
  | .pick c a b => c.us ++ (a.us ++ b.us)
  | .box x => x.us
  | .alloc _ => []
  | .fa _ x => x.us
  | .ld _ x => x.us
  | .st _ a x => a.us ++ x.us
  | .iaA _ _ x i => x.us ++ i.us
  | .iaS _ x i => x.us ++ i.us
  | .ixS x i => x.us ++ i.us
  | .ixA _ _ _ x i => x.us ++ i.us
  | .fld _ _ x => x.us
  | .build _ ps => usP3 ps
  | .bsl _ _ ps => usP2 ps
  | .mksl _ _ l c => l.us ++ c.us
  | .slS x lo hi => x.us ++ (usOpt lo ++ usOpt hi)
  | .slV _ x lo hi top => x.us ++ (usOpt lo ++ (usOpt hi ++ usOpt top))
  | .lenS x => x.us
  | .lenV x => x.us
  | .lenM x => x.us
  | .app _ _ s x => s.us ++ x.us
  | .appS s x => s.us ++ x.us
  | .bin _ x y => x.us ++ y.us
  | .eq _ _ _ x y => x.us ++ y.us
  | .un _ x => x.us
  | .cvI _ x => x.us
  | .cvSS x => x.us
  | .cvBS x => x.us
  | .mx x xs => x.us ++ usAll xs
  | .mn x xs => x.us ++ usAll xs
  | .mkf _ a b => usAll a ++ usAll b
  | .mkm => []
  | .look _ _ _ m k => m.us ++ k.us
  | .upd _ m k x => m.us ++ (k.us ++ x.us)
  | .del _ m k => m.us ++ k.us
  | .mki _ x => x.us
  | .tas _ _ _ x => x.us
  | .ext x _ => x.us
  | .call f args _ => f.us ++ usAll args
  | .inv x _ args _ => x.us ++ usAll args
  | .bad _ => []

def ordered (bf : Array Nat) (i j : Nat) : Bool := (bf.getD (max i j) 0).testBit (min i j)

def cOper (ops : Array Oper) (o : Oper) : Option AOper := do
  let g ← match o.guard with
    | none => some none
    | some (j, b) => match (ops[j]?).bind (·.dst) with
      | some t => some (some (t, b))
      | none => none
  some { dst := o.dst, op := (cOp P o.op).getD (.bad o.pos), guard := g }

def cOpers (ops : Array Oper) : List Oper → Option (List AOper)
  | [] => some []
  | o :: r => match cOper P ops o, cOpers ops r with
    | some a, some as => some (a :: as)
    | _, _ => none

/-- The calls of a region that draws its order are barred where they are not ordered beside all that has to do with the heap. -/
def barAll (bf : Array Nat) (os : List AOper) : List AOper :=
  let acts := os.map (·.op.act)
  os.zipIdx.map fun (o, i) =>
    if o.op.act = 2 ∧ (acts.zipIdx.any fun (a, j) => j != i && a != 0 && !ordered bf i j) then { o with op := o.op.barred } else o

/-- What an operation and its guard look at. -/
def AOper.us (o : AOper) : List Nat := match o.guard with
  | some (t, _) => t :: o.op.us
  | none => o.op.us

/-- Two operations of a region, the first ahead in the text: they are ordered, or may change places. -/
def pairOk (bf : Array Nat) (x y : AOper) (i j : Nat) : Bool :=
  (bf.getD j 0).testBit i ||
    ((!(x.op.act == 2 && y.op.act != 0) && !(y.op.act == 2 && x.op.act != 0)) &&
      (match x.dst with
        | some t => !(y.us.contains t) && y.dst != some t
        | none => true) &&
      (match y.dst with
        | some t => !(x.us.contains t)
        | none => true))

def pairsOk (bf : Array Nat) (os : List AOper) : Bool :=
  os.zipIdx.all fun (y, j) => os.zipIdx.all fun (x, i) => !(decide (i < j)) || pairOk bf x y i j

/-- What an operation hangs on stands ahead of it. -/
def backOk (ops : Array Oper) : Bool := ops.toList.zipIdx.all fun (o, i) => o.after.toList.all fun e => !(Region.binds .any e) || decide (e.on < i)

def cReg (ops : Array Oper) (draw : Bool) : ACode :=
  match cOpers P ops ops.toList with
  | none => .bad "region"
  | some os =>
    if draw then
      let bf := Region.before ops
      let os' := barAll bf os
      if pairsOk bf os' && (backOk ops && P.follows .mixedOrders) then .reg os' true else .bad "order"
    else .reg os false

def cCode : Code → ACode
  | .skip => .skip
  | .region _ ops draw => cReg P ops draw
  | .seq a b => .seq (cCode a) (cCode b)
  | .cond c x y => match cOpd c with
    | some c => .cond c (cCode x) (cCode y)
    | none => .bad "cond"
  | .block id b => .blk id (cCode b)
  | .loop b => .loop (cCode b)
  | .exit id => .exit id
  | .ret => .ret
  | .scope _ => .bad "scope"
  | .label _ => .skip
  | .goto _ => .bad "goto"
  | .rangeFunc .. => .bad "rangeFunc"
  | .refuse w => .bad w

def cRes : List ResultVar → Option (List ARes)
  | [] => some []
  | .tmp t :: r => (cRes r).map (.tmp t :: ·)
  | .cell t ty :: r => match shapeT P ty, cRes r with
    | some n, some rs => some (.cell t n :: rs)
    | _, _ => none

/-- What is written lies in the frame. -/
def okDst (n : Nat) : Code → Bool
  | .region _ ops _ => ops.toList.all fun o => match o.dst with
    | some t => decide (t < n)
    | none => true
  | .seq a b => okDst n a && okDst n b
  | .cond _ a b => okDst n a && okDst n b
  | .block _ b => okDst n b
  | .loop b => okDst n b
  | _ => true

/-- The function without what its run may forget. -/
def cFun (f : Func) : Option (ACode × List ARes) :=
  match f.body, cRes P f.results.toList with
  | some b, some rs => if okDst f.ntmps b then some (cCode P b, rs) else none
  | _, _ => none

def strip : ACode → ACode
  | .seq a b => .seq (strip a) (strip b)
  | .cond c x y => .cond c (strip x) (strip y)
  | .blk id b => .blk id (strip b)
  | .loop b => .loop (strip b)
  | .kp _ c => strip c
  | c => c

def cMeth (t : TypeId) (name : String) : Option FuncId :=
  match (P.info? t).bind (·.methods.find? (·.name == name)) with
  | some m => if m.path.isEmpty then
      match m.func, P.underlying t with
      | some (f, true), some (.pointer _) => some f
      | some (_, false), some (.pointer _) => none
      | some (f, false), some _ => some f
      | _, _ => none
    else none
  | none => none

end


end AM
/- The runs of the abstract machine, step by step: the equations by which simp goes on. What comes later stands as data beside what is looked at now. -/
namespace AM
open Go
section
variable (A : Prog) (S : Mch) (bar T : Nat)

def kO (x : Option (D × Heap)) (dst : Option Nat) (r : List AOper) (ρ : Env) : Option (Env × Heap) :=
  match x with
  | some (d, h) => opsD A S bar T r (putE ρ dst d) h
  | none => none
def kG (b : Option Bool) (o : AOp) (dst : Option Nat) (r : List AOper) (ρ : Env) (h : Heap) : Option (Env × Heap) :=
  match b with
  | some true => kO A S bar T (opD A S bar T o ρ h) dst r ρ
  | some false => opsD A S bar T r (putE ρ dst .undef) h
  | none => none
def kR (x : Option (Env × Heap)) : Option (Ex × Env × Heap) :=
  match x with
  | some (ρ, h) => some (.normal, ρ, h)
  | none => none
def kS (x : Option (Ex × Env × Heap)) (b : ACode) : Option (Ex × Env × Heap) :=
  match x with
  | some (.normal, ρ, h) => exec A S bar T b ρ h
  | r => r
def kC (c : Option D) (x y : ACode) (ρ : Env) (h : Heap) : Option (Ex × Env × Heap) :=
  match c with
  | some (.bool true) => exec A S bar T x ρ h
  | some (.bool false) => exec A S bar T y ρ h
  | _ => none
def kK (ρ : Option Env) (c : ACode) (h : Heap) : Option (Ex × Env × Heap) :=
  match ρ with
  | some ρ => exec A S bar T c ρ h
  | none => none

theorem opsD_nil (ρ : Env) (h : Heap) : opsD A S bar T [] ρ h = some (ρ, h) := rfl
theorem opsD_cons (dst : Option Nat) (o : AOp) (g : Option (Nat × Bool)) (r : List AOper) (ρ : Env) (h : Heap) :
    opsD A S bar T (⟨dst, o, g⟩ :: r) ρ h = kG A S bar T (wanted ρ g) o dst r ρ h := by
  unfold opsD kG
  cases wanted ρ g with
  | none => rfl
  | some b => cases b with
    | true =>
      simp only [bnd_some, brk_true]
      unfold kO
      cases opD A S bar T o ρ h <;> rfl
    | false => rfl
theorem kG_true (o : AOp) (dst : Option Nat) (r : List AOper) (ρ : Env) (h : Heap) : kG A S bar T (some true) o dst r ρ h = kO A S bar T (opD A S bar T o ρ h) dst r ρ := rfl
theorem kG_false (o : AOp) (dst : Option Nat) (r : List AOper) (ρ : Env) (h : Heap) : kG A S bar T (some false) o dst r ρ h = opsD A S bar T r (putE ρ dst .undef) h := rfl
theorem kO_some (d : D) (h : Heap) (dst : Option Nat) (r : List AOper) (ρ : Env) : kO A S bar T (some (d, h)) dst r ρ = opsD A S bar T r (putE ρ dst d) h := rfl
theorem kR_some (ρ : Env) (h : Heap) : kR (some (ρ, h)) = some (.normal, ρ, h) := rfl
theorem kS_normal (ρ : Env) (h : Heap) (b : ACode) : kS A S bar T (some (.normal, ρ, h)) b = exec A S bar T b ρ h := rfl
theorem kS_ret (ρ : Env) (h : Heap) (b : ACode) : kS A S bar T (some (.ret, ρ, h)) b = some (.ret, ρ, h) := rfl
theorem kS_exit (n : Nat) (ρ : Env) (h : Heap) (b : ACode) : kS A S bar T (some (.exit n, ρ, h)) b = some (.exit n, ρ, h) := rfl
theorem kC_true (x y : ACode) (ρ : Env) (h : Heap) : kC A S bar T (some (.bool true)) x y ρ h = exec A S bar T x ρ h := rfl
theorem kC_false (x y : ACode) (ρ : Env) (h : Heap) : kC A S bar T (some (.bool false)) x y ρ h = exec A S bar T y ρ h := rfl
theorem kK_some (ρ : Env) (c : ACode) (h : Heap) : kK A S bar T (some ρ) c h = exec A S bar T c ρ h := rfl
theorem exec_skip (ρ : Env) (h : Heap) : exec A S bar T .skip ρ h = some (.normal, ρ, h) := rfl
theorem exec_reg (ops : List AOper) (dr : Bool) (ρ : Env) (h : Heap) : exec A S bar T (.reg ops dr) ρ h = kR (opsD A S bar T ops ρ h) := by
  simp only [exec]; cases opsD A S bar T ops ρ h <;> rfl
theorem exec_seq (a b : ACode) (ρ : Env) (h : Heap) : exec A S bar T (.seq a b) ρ h = kS A S bar T (exec A S bar T a ρ h) b := by
  simp only [exec]
  cases exec A S bar T a ρ h with
  | none => rfl
  | some p => obtain ⟨e, ρ', h'⟩ := p; cases e <;> rfl
theorem exec_cond (c : Opd) (x y : ACode) (ρ : Env) (h : Heap) : exec A S bar T (.cond c x y) ρ h = kC A S bar T (c.ev ρ) x y ρ h := by
  simp only [exec]
  cases hc : c.ev ρ with
  | none => rfl
  | some d =>
    cases d <;> try rfl
    case bool b => cases b <;> rfl
theorem exec_blk (id : Nat) (b : ACode) (ρ : Env) (h : Heap) : exec A S bar T (.blk id b) ρ h = inBlk id (exec A S bar T b ρ h) := rfl
theorem exec_loop (b : ACode) (ρ : Env) (h : Heap) : exec A S bar T (.loop b) ρ h = S.lp bar T b ρ h := rfl
theorem exec_exit (id : Nat) (ρ : Env) (h : Heap) : exec A S bar T (.exit id) ρ h = some (.exit id, ρ, h) := rfl
theorem exec_ret (ρ : Env) (h : Heap) : exec A S bar T .ret ρ h = some (.ret, ρ, h) := rfl
theorem exec_kp (ks : List Nat) (c : ACode) (ρ : Env) (h : Heap) : exec A S bar T (.kp ks c) ρ h = kK A S bar T (keep ks ρ) c h := by
  simp only [exec]; cases keep ks ρ <;> rfl
theorem inBlk_normal (id : Nat) (ρ : Env) (h : Heap) : inBlk id (some (.normal, ρ, h)) = some (.normal, ρ, h) := rfl
theorem inBlk_ret (id : Nat) (ρ : Env) (h : Heap) : inBlk id (some (.ret, ρ, h)) = some (.ret, ρ, h) := rfl
theorem inBlk_exit (id id' : Nat) (ρ : Env) (h : Heap) : inBlk id (some (.exit id', ρ, h)) = brk (id' == id) (some (.normal, ρ, h)) (some (.exit id', ρ, h)) := rfl
theorem inBlk_none (id : Nat) : inBlk id none = none := rfl
theorem endD_normal (res : List ARes) (tr : Bool) (ρ : Env) (h : Heap) : endD T res tr (some (.normal, ρ, h)) = bnd (resD T ρ h res) fun ds => brk tr (some (tupD ds, h)) (bnd (frz T h 50 (tupD ds)) fun d => some (d, h.tail)) := rfl
theorem endD_ret (res : List ARes) (tr : Bool) (ρ : Env) (h : Heap) : endD T res tr (some (.ret, ρ, h)) = bnd (resD T ρ h res) fun ds => brk tr (some (tupD ds, h)) (bnd (frz T h 50 (tupD ds)) fun d => some (d, h.tail)) := rfl
theorem callB_fn {f : FuncId} {fn : AFun} (ho : A.orc f = none) (hf : A.fn f = some fn) (htr : fn.tr = false) (args : List D) (h : Heap) :
    callB A S bar T f args h = endD (T + 1) fn.res false (exec A S bar (T + 1) fn.body (argEnv args 0) ([] :: h)) := by
  simp only [callB, ho, hf, bnd_some, htr, brk_false]
theorem callB_tr {f : FuncId} {fn : AFun} (ho : A.orc f = none) (hf : A.fn f = some fn) (htr : fn.tr = true) (hb : bar < T) (args : List D) (h : Heap) :
    callB A S bar T f args h = endD T fn.res true (exec A S bar T fn.body (argEnv args 0) h) := by
  simp only [callB, ho, hf, bnd_some, htr, brk_true, hb, decide_true]
theorem lp_kp (hS : Fix A S) (ks : List Nat) (b : ACode) (ρ : Env) (h : Heap) : S.lp bar T (.kp ks b) ρ h = thn (kK A S bar T (keep ks ρ) b h) fun ρ' h' => S.lp bar T (.kp ks b) ρ' h' := by
  rw [hS.lp, lpB, exec_kp]
end
end AM
/- How the abstract machine's data lie in the model's memory: readings, the heap's invariant, and what a run leaves. -/
namespace AM
open Go

/-- Where an object lies: its block, the place of its first cell, an element's cells, how many elements there is room for. -/
structure Ref where
  blk : Nat
  base : Nat
  size : Nat
  cap : Nat

abbrev Refs := Nat → Nat → Option Ref
abbrev Cont := Nat → Nat → Option Obj

/-- A block that belongs to no object. -/
def Imm (φ : Refs) (w : World) (b : Nat) : Prop := b < w.heap.size ∧ ∀ l i r, φ l i = some r → r.blk ≠ b

def Live (C : Cont) (l i : Nat) : Prop := ∃ o, C l i = some o ∧ o ≠ .dead

/-- What a value reads as. -/
inductive Rep (φ : Refs) (w : World) : Value → D → Prop
  | undef : Rep φ w undef .undef
  | bool (b : Bool) : Rep φ w (.bool b) (.bool b)
  | int (k : IntKind) (n : Int) : Rep φ w (.int k n) (.int k n)
  | str (s : List UInt8) : Rep φ w (.string ⟨s.toArray⟩) (.str s)
  | agg (cs : Array Value) (ds : List D) (hl : cs.size = ds.length) (h1 : ∀ d ∈ ds, d.one = true)
      (h : ∀ (i : Nat) (v : Value) (d : D), cs[i]? = some v → ds[i]? = some d → Rep φ w v d) : Rep φ w (.agg cs) (.agg ds)
  | nil : Rep φ w (.slice none 0 0) .nil
  | slE (a : Option Addr) (cap : Nat) : Rep φ w (.slice a 0 cap) (.sl [])
  | sl (b o len cap sz : Nat) (es : List (List D)) (c : Nat → Value) (hlen : es.length = len) (hcap : len ≤ cap)
      (himm : Imm φ w b) (hlv : lvlEs es = 0) (hes : ∀ cs ∈ es, cs.length = sz) (hone : ∀ cs ∈ es, ∀ d ∈ cs, d.one = true)
      (hc : ∀ (i : Nat) (cs : List D) (j : Nat) (d : D), es[i]? = some cs → cs[j]? = some d → w.cell? ⟨b, o + (i * sz + j), none⟩ = some (c (i * sz + j)))
      (h : ∀ (i : Nat) (cs : List D) (j : Nat) (d : D), es[i]? = some cs → cs[j]? = some d → Rep φ w (c (i * sz + j)) d) : Rep φ w (.slice (some ⟨b, o, none⟩) len cap) (.sl es)
  | own (l i off len cap sz : Nat) (lim : Bool) (r : Ref) (ad : Addr) (hφ : φ l i = some r) (hsz : r.size = sz) (h1 : off + cap ≤ r.cap) (h2 : lim = false → off + cap = r.cap)
      (h3 : len ≤ cap) (h4 : 0 < cap → ad = ⟨r.blk, r.base + off * r.size, none⟩) : Rep φ w (.slice (some ad) len cap) (.own l i off len sz lim)
  | ptr (l i e j : Nat) (r : Ref) (hφ : φ l i = some r) : Rep φ w (.pointer (some ⟨r.blk, r.base + (e * r.size + j), none⟩)) (.ptr l i e j)
  | rptr (b o j : Nat) (cs : List D) (c : Nat → Value) (himm : Imm φ w b) (hlv : D.lvl.lvlAll cs = 0) (hone : ∀ d ∈ cs, d.one = true)
      (hc : ∀ (k : Nat) (d : D), cs[k]? = some d → w.cell? ⟨b, o + k, none⟩ = some (c k)) (h : ∀ (k : Nat) (d : D), cs[k]? = some d → Rep φ w (c k) d) : Rep φ w (.pointer (some ⟨b, o + j, none⟩)) (.rptr cs j)
  | nilp : Rep φ w (.pointer none) .nilp
  | map (l i : Nat) (r : Ref) (hφ : φ l i = some r) : Rep φ w (.map (some r.blk)) (.map l i)
  | nilm : Rep φ w (.map none) .nilm
  | fn (f : Fn) (fs cs : Array Value) (ds es : List D) (hl1 : fs.size = ds.length) (hl2 : cs.size = es.length)
      (h1 : ∀ (i : Nat) (v : Value) (d : D), fs[i]? = some v → ds[i]? = some d → Rep φ w v d) (h2 : ∀ (i : Nat) (v : Value) (d : D), cs[i]? = some v → es[i]? = some d → Rep φ w v d) : Rep φ w (.func f fs cs) (.fn f ds es)
  | nilf : Rep φ w .nilFunc .nilf
  | ifc (t : TypeId) (v : Value) (d : D) (h : Rep φ w v d) : Rep φ w (.iface t v) (.ifc t d)
  | nili : Rep φ w .nilIface .nili
  | tup (cs : Array Value) (ds : List D) (hl : cs.size = ds.length) (h : ∀ (i : Nat) (v : Value) (d : D), cs[i]? = some v → ds[i]? = some d → Rep φ w v d) : Rep φ w (.tuple cs) (.tup ds)

/-! ### Levels -/
theorem lvlAll_le {T : Nat} : ∀ {ds : List D}, D.lvl.lvlAll ds ≤ T ↔ ∀ d ∈ ds, d.lvl ≤ T
  | [] => by simp [D.lvl.lvlAll]
  | d :: r => by
    have ih := lvlAll_le (T := T) (ds := r)
    simp only [D.lvl.lvlAll, List.mem_cons, forall_eq_or_imp]
    rw [← ih]
    exact Nat.max_le
theorem lvlEs_le {T : Nat} : ∀ {es : List (List D)}, lvlEs es ≤ T ↔ ∀ cs ∈ es, D.lvl.lvlAll cs ≤ T
  | [] => by simp [lvlEs]
  | cs :: r => by
    have ih := lvlEs_le (T := T) (es := r)
    simp only [lvlEs, List.mem_cons, forall_eq_or_imp]
    rw [← ih]
    exact Nat.max_le
theorem lvl_cells {d : D} {T : Nat} : D.lvl.lvlAll d.cells ≤ T ↔ d.lvl ≤ T := by
  cases d <;> simp [D.cells, D.lvl, D.lvl.lvlAll]

theorem getE_zip {cs : Array Value} {ds : List D} (hl : cs.size = ds.length) {d : D} (hd : d ∈ ds) : ∃ (i : Nat) (v : Value), cs[i]? = some v ∧ ds[i]? = some d := by
  obtain ⟨i, hi⟩ := List.mem_iff_getElem?.1 hd
  have h : i < ds.length := by
    rcases Nat.lt_or_ge i ds.length with h | h
    · exact h
    · rw [List.getElem?_eq_none h] at hi; cases hi
  exact ⟨i, cs[i]'(by omega), by simp [Array.getElem?_eq_getElem (show i < cs.size by omega)], hi⟩

/-- What is read refers to what lies. -/
theorem Rep.lvl_le {φ : Refs} {w : World} {T : Nat} (hT : ∀ l i r, φ l i = some r → l < T) {v : Value} {d : D} (h : Rep φ w v d) : d.lvl ≤ T := by
  induction h with
  | undef | bool | int | str | nil | slE | sl | rptr | nilp | nilm | nilf | nili => simp [D.lvl]
  | agg cs ds hl h1 h ih =>
    simp only [D.lvl]
    exact lvlAll_le.2 fun d hd => by obtain ⟨i, v, hv, hd⟩ := getE_zip hl hd; exact ih i v d hv hd
  | own l i off len cap sz lim r ad hφ => exact hT l i r hφ
  | ptr l i e j r hφ => exact hT l i r hφ
  | map l i r hφ => exact hT l i r hφ
  | fn f fs cs ds es hl1 hl2 h1 h2 ih1 ih2 =>
    simp only [D.lvl]
    exact Nat.max_le.2 ⟨lvlAll_le.2 fun d hd => by obtain ⟨i, v, hv, hd⟩ := getE_zip hl1 hd; exact ih1 i v d hv hd,
      lvlAll_le.2 fun d hd => by obtain ⟨i, v, hv, hd⟩ := getE_zip hl2 hd; exact ih2 i v d hv hd⟩
  | ifc t v d h ih => simpa [D.lvl] using ih
  | tup cs ds hl h ih =>
    simp only [D.lvl]
    exact lvlAll_le.2 fun d hd => by obtain ⟨i, v, hv, hd⟩ := getE_zip hl hd; exact ih i v d hv hd

theorem lvl_mem {cs : List D} {d : D} {es : List (List D)} (hcs : cs ∈ es) (hd : d ∈ cs) : d.lvl ≤ lvlEs es :=
  Nat.le_trans (lvlAll_le.1 (Nat.le_refl _) d hd) (lvlEs_le.1 (Nat.le_refl _) cs hcs)

/-- What is read stays read where the references that it needs stay, and what belongs to no object stays. -/
theorem Rep.mono {φ φ' : Refs} {w w' : World} {T : Nat} (href : ∀ l i r, l < T → φ l i = some r → φ' l i = some r)
    (himm : ∀ b, Imm φ w b → w'.heap[b]? = w.heap[b]? ∧ Imm φ' w' b) {v : Value} {d : D} (h : Rep φ w v d) : d.lvl ≤ T → Rep φ' w' v d := by
  induction h with
  | undef => exact fun _ => .undef
  | bool b => exact fun _ => .bool b
  | int k n => exact fun _ => .int k n
  | str s => exact fun _ => .str s
  | agg cs ds hl h1 h ih =>
    intro hT
    exact .agg cs ds hl h1 fun i v d hv hd => ih i v d hv hd (lvlAll_le.1 hT d (List.mem_of_getElem? hd))
  | nil => exact fun _ => .nil
  | slE a cap => exact fun _ => .slE a cap
  | sl b o len cap sz es c hlen hcap hi hlv hes hone hc h ih =>
    intro hT
    obtain ⟨hb, hi'⟩ := himm b hi
    refine .sl b o len cap sz es c hlen hcap hi' hlv hes hone (fun i cs j d h1 h2 => ?_) (fun i cs j d h1 h2 => ih i cs j d h1 h2 ?_)
    · have := hc i cs j d h1 h2
      simpa [World.cell?, hb] using this
    · have := lvl_mem (List.mem_of_getElem? h1) (List.mem_of_getElem? h2)
      omega
  | own l i off len cap sz lim r ad hφ hsz h1 h2 h3 h4 => exact fun hT => .own l i off len cap sz lim r ad (href l i r hT hφ) hsz h1 h2 h3 h4
  | ptr l i e j r hφ => exact fun hT => .ptr l i e j r (href l i r hT hφ)
  | rptr b o j cs c hi hlv hone hc h ih =>
    intro hT
    obtain ⟨hb, hi'⟩ := himm b hi
    refine .rptr b o j cs c hi' hlv hone (fun k d h1 => ?_) (fun k d h1 => ih k d h1 ?_)
    · have := hc k d h1
      simpa [World.cell?, hb] using this
    · have := lvlAll_le.1 (Nat.le_of_eq hlv) d (List.mem_of_getElem? h1)
      omega
  | nilp => exact fun _ => .nilp
  | map l i r hφ => exact fun hT => .map l i r (href l i r hT hφ)
  | nilm => exact fun _ => .nilm
  | fn f fs cs ds es hl1 hl2 h1 h2 ih1 ih2 =>
    intro hT
    have hT := Nat.max_le.1 hT
    exact .fn f fs cs ds es hl1 hl2 (fun i v d hv hd => ih1 i v d hv hd (lvlAll_le.1 hT.1 d (List.mem_of_getElem? hd)))
      (fun i v d hv hd => ih2 i v d hv hd (lvlAll_le.1 hT.2 d (List.mem_of_getElem? hd)))
  | nilf => exact fun _ => .nilf
  | ifc t v d h ih => exact fun hT => .ifc t v d (ih hT)
  | nili => exact fun _ => .nili
  | tup cs ds hl h ih =>
    intro hT
    exact .tup cs ds hl fun i v d hv hd => ih i v d hv hd (lvlAll_le.1 hT d (List.mem_of_getElem? hd))

/-! ### The heap -/
/-- An object lies. -/
def ObjOk (φ : Refs) (w : World) (l : Nat) (r : Ref) : Obj → Prop
  | .dead => True
  | .arr es => ∃ c ty, w.heap[r.blk]? = some (.cells c ty (0, 0)) ∧ r.base + r.cap * r.size ≤ c.size ∧ es.length ≤ r.cap ∧ lvlEs es ≤ l + 1 ∧
      (∀ cs ∈ es, cs.length = r.size) ∧ (∀ cs ∈ es, ∀ d ∈ cs, d.one = true) ∧
      ∀ (e : Nat) (cs : List D) (j : Nat) (d : D), es[e]? = some cs → cs[j]? = some d → ∃ v, c[r.base + (e * r.size + j)]? = some v ∧ Rep φ w v d
  | .map es => ∃ ents clock, w.heap[r.blk]? = some (.map ents clock) ∧ ents.size = es.length ∧ (∀ p ∈ es, p.1.lvl = 0 ∧ p.2.lvl ≤ l + 1) ∧
      ∀ (i : Nat) (e : MapEntry) (p : D × D), ents[i]? = some e → es[i]? = some p → Rep φ w e.key p.1 ∧ Rep φ w e.val p.2

structure Inv (φ : Refs) (w : World) (T : Nat) (C : Cont) : Prop where
  bnd : ∀ l i r, φ l i = some r → l < T ∧ r.blk < w.heap.size
  lev : ∀ l i r l' i' r', φ l i = some r → φ l' i' = some r' → l ≠ l' → r.blk ≠ r'.blk
  inj : ∀ l i r i' r', φ l i = some r → φ l i' = some r' → Live C l i → Live C l i' → i ≠ i' → r.blk ≠ r'.blk
  obj : ∀ l i r o, φ l i = some r → C l i = some o → ObjOk φ w l r o

/-- What a run leaves: what belongs to no live object stays; the references stay; new ones lie in new blocks, or in a live object's of the same level. -/
structure Ext (T : Nat) (C : Cont) (φ : Refs) (w : World) (C' : Cont) (φ' : Refs) (w' : World) : Prop where
  os : w'.os = w.os
  tape : w'.tape = w.tape
  output : w'.output = w.output
  size : w.heap.size ≤ w'.heap.size
  ref : ∀ l i r, φ l i = some r → φ' l i = some r
  keep : ∀ b, b < w.heap.size → (∀ l i r, φ l i = some r → r.blk = b → ¬ Live C l i) → w'.heap[b]? = w.heap[b]?
  new : ∀ l i r, φ' l i = some r → φ l i = some r ∨
    (φ l i = none ∧ C l i = none ∧ (C' l i).isSome ∧ (w.heap.size ≤ r.blk ∨ ∃ i' r', φ l i' = some r' ∧ r'.blk = r.blk ∧ Live C l i'))
  live : ∀ l i r, φ l i = some r → Live C' l i → Live C l i
  grow : ∀ l i, l < T → (C l i).isSome → (C' l i).isSome

theorem Ext.imm {T : Nat} {C C' : Cont} {φ φ' : Refs} {w w' : World} (h : Ext T C φ w C' φ' w') : ∀ b, Imm φ w b → w'.heap[b]? = w.heap[b]? ∧ Imm φ' w' b := by
  intro b hb
  refine ⟨h.keep b hb.1 fun l i r hr he => absurd he (hb.2 l i r hr), Nat.lt_of_lt_of_le hb.1 h.size, fun l i r hr he => ?_⟩
  rcases h.new l i r hr with h1 | ⟨_, _, _, h1 | ⟨i', r', h1, h2, _⟩⟩
  · exact hb.2 l i r h1 he
  · have := hb.1; omega
  · exact hb.2 l i' r' h1 (h2.trans he)

theorem Ext.rep {T : Nat} {C C' : Cont} {φ φ' : Refs} {w w' : World} (h : Ext T C φ w C' φ' w') {v : Value} {d : D} (hr : Rep φ w v d) : Rep φ' w' v d :=
  hr.mono (T := d.lvl) (fun l i r _ => h.ref l i r) h.imm (Nat.le_refl _)

theorem Ext.refl (T : Nat) (C : Cont) (φ : Refs) (w : World) : Ext T C φ w C φ w :=
  ⟨rfl, rfl, rfl, Nat.le_refl _, fun _ _ _ h => h, fun _ _ _ => rfl, fun _ _ _ h => .inl h, fun _ _ _ _ h => h, fun _ _ _ h => h⟩

/-- What is made on the way is not there yet. -/
def Fresh (T : Nat) (φ : Refs) (C C' : Cont) : Prop := ∀ l i, l < T → C l i = none → (C' l i).isSome → φ l i = none

theorem Ext.trans {T : Nat} {C C1 C2 : Cont} {φ φ1 φ2 : Refs} {w w1 w2 : World} (hb : ∀ l i r, φ1 l i = some r → l < T) (hb2 : ∀ l i r, φ2 l i = some r → l < T) (h : Ext T C φ w C1 φ1 w1) (k : Ext T C1 φ1 w1 C2 φ2 w2) : Ext T C φ w C2 φ2 w2 where
  os := k.os.trans h.os
  tape := k.tape.trans h.tape
  output := k.output.trans h.output
  size := Nat.le_trans h.size k.size
  ref l i r hr := k.ref l i r (h.ref l i r hr)
  keep b hlt hn := by
    refine (k.keep b (Nat.lt_of_lt_of_le hlt h.size) fun l i r hr he hl => ?_).trans (h.keep b hlt hn)
    rcases h.new l i r hr with h1 | ⟨_, _, _, h1 | ⟨i', r', h1, h2, h3⟩⟩
    · exact hn l i r h1 he (h.live l i r h1 hl)
    · omega
    · exact hn l i' r' h1 (h2.trans he) h3
  new l i r hr := by
    rcases k.new l i r hr with h1 | ⟨h0, hn, hc, h1⟩
    · rcases h.new l i r h1 with h2 | ⟨h0, hn, hc, h2⟩
      · exact .inl h2
      · exact .inr ⟨h0, hn, k.grow l i (hb l i r h1) hc, h2⟩
    · refine .inr ⟨?_, ?_, hc, ?_⟩
      · cases hq : φ l i with
        | none => rfl
        | some q => rw [h.ref l i q hq] at h0; cases h0
      · cases hq : C l i with
        | none => rfl
        | some q => have := h.grow l i (hb2 l i r hr) (by simp [hq]); simp [hn] at this
      · rcases h1 with h1 | ⟨i', r', h1, h2, h3⟩
        · exact .inl (Nat.le_trans h.size h1)
        · rcases h.new l i' r' h1 with h4 | ⟨_, _, _, h4 | ⟨i'', r'', h4, h5, h6⟩⟩
          · exact .inr ⟨i', r', h4, h2, h.live l i' r' h4 h3⟩
          · exact .inl (by omega)
          · exact .inr ⟨i'', r'', h4, h5.trans h2, h6⟩
  live l i r hr hl := h.live l i r hr (k.live l i r (h.ref l i r hr) hl)
  grow l i hl hc := k.grow l i hl (h.grow l i hl hc)

theorem Fresh.left {T : Nat} {φ : Refs} {C C1 C2 : Cont} (hf : Fresh T φ C C2) (hg : ∀ l i, l < T → (C1 l i).isSome → (C2 l i).isSome) : Fresh T φ C C1 :=
  fun l i hl h0 h1 => hf l i hl h0 (hg l i hl h1)
theorem Fresh.right {T : Nat} {φ φ1 : Refs} {C C1 C2 : Cont} {w w1 : World} (hf : Fresh T φ C C2) (h : Ext T C φ w C1 φ1 w1) : Fresh T φ1 C1 C2 := by
  intro l i hl h0 h1
  cases hq : φ1 l i with
  | none => rfl
  | some r =>
    rcases h.new l i r hq with h2 | ⟨_, _, hc, _⟩
    · have h3 : C l i = none := by
        cases hc : C l i with
        | none => rfl
        | some o => have := h.grow l i hl (by simp [hc]); simp [h0] at this
      have := hf l i hl h3 h1
      rw [this] at h2; cases h2
    · simp [h0] at hc

/-! ### Frames of the abstract heap -/
def frm : Nat → Heap → Nat → Option (List Obj)
  | _, [], _ => none
  | T, f :: r, l => if l + 1 = T then some f else frm (T - 1) r l

theorem getO_frm : ∀ (h : Heap) (T l i : Nat), getO T h l i = (frm T h l).bind (·[i]?)
  | [], _, _, _ => rfl
  | f :: r, T, l, i => by
    simp only [getO, frm]
    by_cases h : l + 1 = T
    · simp [h]
    · have : (l + 1 == T) = false := by simpa using h
      simp [this, h, getO_frm r]

theorem frm_lt : ∀ (h : Heap) (T l : Nat), h.length = T → ((frm T h l).isSome ↔ l < T)
  | [], T, l, hl => by simp at hl; subst hl; simp [frm]
  | f :: r, T, l, hl => by
    simp only [frm]
    by_cases h : l + 1 = T
    · simp [h]; omega
    · simp only [h, if_false]
      rw [frm_lt r (T - 1) l (by simp at hl; omega)]
      omega

theorem getO_lt {h : Heap} {T l i : Nat} (hl : h.length = T) {o : Obj} (hg : getO T h l i = some o) : l < T := by
  rw [getO_frm] at hg
  cases hf : frm T h l with
  | none => simp [hf] at hg
  | some f => exact (frm_lt h T l hl).1 (by simp [hf])

theorem setO_length : ∀ (h : Heap) (T l i : Nat) (o : Obj), (setO T h l i o).length = h.length
  | [], _, _, _, _ => rfl
  | f :: r, T, l, i, o => by
    simp only [setO]
    cases l + 1 == T <;> simp [setO_length r]

theorem frm_setO : ∀ (h : Heap) (T l i : Nat) (o : Obj) (l' : Nat), h.length = T → frm T (setO T h l i o) l' = if l' = l then (frm T h l).map (·.set i o) else frm T h l'
  | [], _, _, _, _, _, _ => by simp [setO, frm]
  | f :: r, T, l, i, o, l', hl => by
    simp only [setO]
    by_cases h : l + 1 = T
    · have e : (l + 1 == T) = true := by simpa using h
      simp only [e, cond_true, frm]
      by_cases h2 : l' = l
      · subst h2; simp [h]
      · have : ¬ l' + 1 = T := by omega
        simp [this, h2]
    · have e : (l + 1 == T) = false := by simpa using h
      simp only [e, cond_false, frm]
      rw [frm_setO r (T - 1) l i o l' (by simp at hl; omega)]
      by_cases h2 : l' = l
      · subst h2; simp [h]
      · simp [h2]

theorem getO_setO {h : Heap} {T l i : Nat} (o : Obj) (hl : h.length = T) (l' i' : Nat) (hx : (getO T h l i).isSome) :
    getO T (setO T h l i o) l' i' = if l' = l ∧ i' = i then some o else getO T h l' i' := by
  rw [getO_frm, frm_setO _ _ _ _ _ _ hl, getO_frm]
  by_cases h1 : l' = l
  · subst h1
    simp only [if_true, true_and]
    rw [getO_frm] at hx
    cases hf : frm T h l' with
    | none => simp [hf] at hx
    | some f =>
      simp only [hf, Option.bind_some, Option.map_some] at hx ⊢
      by_cases h2 : i' = i
      · subst h2
        have : i' < f.length := by
          rcases Nat.lt_or_ge i' f.length with h | h
          · exact h
          · rw [List.getElem?_eq_none h] at hx; simp at hx
        simp [this]
      · simp only [h2, if_false]
        rw [List.getElem?_set_ne (Ne.symm h2)]
  · simp [h1]

theorem pushO_spec : ∀ (h : Heap) (T l : Nat) (o : Obj) (i : Nat) (h' : Heap), h.length = T → pushO T h l o = some (i, h') →
    h'.length = T ∧ l < T ∧ (∀ k, getO T h l k = none ↔ i ≤ k) ∧ (∀ l' i', getO T h' l' i' = if l' = l ∧ i' = i then some o else getO T h l' i') ∧
    (∀ l', l' ≠ l → frm T h' l' = frm T h l')
  | [], _, _, _, _, _, _, hp => by simp [pushO] at hp
  | f :: r, T, l, o, i, h', hl, hp => by
    simp only [pushO] at hp
    by_cases h : l + 1 = T
    · have e : (l + 1 == T) = true := by simpa using h
      simp only [e, brk_true, Option.some.injEq, Prod.mk.injEq] at hp
      obtain ⟨rfl, rfl⟩ := hp
      refine ⟨by simpa using hl, by omega, fun k => ?_, fun l' i' => ?_, fun l' h1 => ?_⟩
      · simp [getO, e]
      · simp only [getO]
        by_cases h1 : l' = l
        · subst h1
          simp only [e, brk_true, true_and]
          by_cases h2 : i' = f.length
          · subst h2; simp
          · simp only [h2, if_false]
            rcases Nat.lt_or_ge i' f.length with h3 | h3
            · rw [List.getElem?_append_left h3]
            · rw [List.getElem?_eq_none (by simp; omega), List.getElem?_eq_none h3]
        · have : (l' + 1 == T) = false := by simp; omega
          simp [this, h1]
      · have : ¬ l' + 1 = T := by omega
        simp [frm, this]
    · have e : (l + 1 == T) = false := by simpa using h
      simp only [e, brk_false] at hp
      cases hq : pushO (T - 1) r l o with
      | none => simp [hq] at hp
      | some p =>
        obtain ⟨i0, h0⟩ := p
        simp only [hq, bnd_some, Option.some.injEq, Prod.mk.injEq] at hp
        obtain ⟨rfl, rfl⟩ := hp
        obtain ⟨q1, q2, q3, q4, q5⟩ := pushO_spec r (T - 1) l o i0 h0 (by simp at hl; omega) hq
        refine ⟨by simp at hl ⊢; omega, by omega, fun k => ?_, fun l' i' => ?_, fun l' h1 => ?_⟩
        · simp only [getO, e, brk_false]; exact q3 k
        · simp only [getO]
          by_cases h1 : l' + 1 = T
          · have e1 : (l' + 1 == T) = true := by simpa using h1
            have : ¬ l' = l := by omega
            simp [e1, this]
          · have e1 : (l' + 1 == T) = false := by simpa using h1
            simp only [e1, brk_false]; exact q4 l' i'
        · simp only [frm]
          by_cases h2 : l' + 1 = T
          · simp [h2]
          · simp only [h2, if_false]; exact q5 l' h1
end AM
/- One operation of the abstract machine beside the model's: those that only compute, and those that only look at memory. -/
namespace AM
open Go

theorem bnd_eq {α β : Type} {a : Option α} {f : α → Option β} {r : β} (h : bnd a f = some r) : ∃ x, a = some x ∧ f x = some r := by
  cases a with
  | none => cases h
  | some x => exact ⟨x, rfl, h⟩
theorem brk_eq {β : Type} {c : Bool} {x y : Option β} {r : β} (h : brk c x y = some r) : (c = true ∧ x = some r) ∨ (c = false ∧ y = some r) := by
  cases c
  · exact .inr ⟨rfl, h⟩
  · exact .inl ⟨rfl, h⟩
theorem brk_none {β : Type} {c : Bool} {x : Option β} {r : β} (h : brk c x none = some r) : c = true ∧ x = some r := by
  cases c
  · cases h
  · exact ⟨rfl, h⟩

/-- The result of an operation: a value, or none. -/
def Gives (r : Result Next) (v : Value) (w : World) : Prop := r = .ok (.value v) w ∨ (r = .ok .skip w ∧ v = undef)

/-- The temporaries read as the abstract ones. -/
def EnvR (φ : Refs) (w : World) (a : Act) (ρ : Env) : Prop := ∀ (t : Nat) (d : D), lk ρ t = some d → ∃ v : Value, a.tmps[t]? = some v ∧ Rep φ w v d

theorem EnvR.ext {T : Nat} {C C' : Cont} {φ φ' : Refs} {w w' : World} {a : Act} {ρ : Env} (h : EnvR φ w a ρ) (he : Ext T C φ w C' φ' w') : EnvR φ' w' a ρ :=
  fun t d hd => let ⟨v, h1, h2⟩ := h t d hd; ⟨v, h1, he.rep h2⟩

/-- It leaves memory alone. -/
def Pure1 (φ : Refs) (w : World) (r : Result Next) (d : D) : Prop := ∃ v, Gives r v w ∧ Rep φ w v d

theorem Pure1.mk' {φ : Refs} {w : World} {r : Result Next} {v : Value} {d : D} (h : r = .ok (.value v) w) (hr : Rep φ w v d) : Pure1 φ w r d := ⟨v, .inl h, hr⟩

section
variable {φ : Refs} {w : World} {a : Act} {ρ : Env} {P : Program}

theorem ofV_rep {v : Value} {d : D} (h : ofV v = some d) : Rep φ w v d ∧ d.one = true ∧ d.lvl = 0 := by
  unfold ofV at h
  split at h <;> simp only [Option.some.injEq, reduceCtorEq] at h <;> subst h <;> refine ⟨?_, rfl, rfl⟩
  · exact .bool _
  · exact .int _ _
  · rename_i s
    have := Rep.str (φ := φ) (w := w) s.data.toList
    rwa [Array.toArray_toList] at this
  · exact .nil
  · exact .nilp
  · exact .nilm
  · exact .nilf
  · exact .nili

theorem ofVs_rep : ∀ {l : List Value} {ds : List D}, ofVs l = some ds → l.length = ds.length ∧ (∀ d ∈ ds, d.one = true ∧ d.lvl = 0) ∧ ∀ (i : Nat) (v : Value) (d : D), l[i]? = some v → ds[i]? = some d → Rep φ w v d
  | [], ds, h => by
    simp only [ofVs, Option.some.injEq] at h; subst h
    exact ⟨rfl, by simp, by simp⟩
  | v :: r, ds, h => by
    simp only [ofVs] at h
    split at h <;> simp only [Option.some.injEq, reduceCtorEq] at h
    rename_i d ds' h1 h2
    subst h
    obtain ⟨g1, g2, g3⟩ := ofVs_rep h2
    obtain ⟨f1, f2, f3⟩ := ofV_rep (φ := φ) (w := w) h1
    refine ⟨by simp [g1], ?_, ?_⟩
    · intro e he
      rcases List.mem_cons.1 he with rfl | he
      · exact ⟨f2, f3⟩
      · exact g2 e he
    · intro i u e hu he
      cases i with
      | zero => simp at hu he; subst hu; subst he; exact f1
      | succ i => exact g3 i u e (by simpa using hu) (by simpa using he)

theorem ofW_rep {v : Value} {d : D} (h : ofW v = some d) : Rep φ w v d ∧ d.stb = true ∧ d.lvl = 0 := by
  unfold ofW at h
  split at h
  · rename_i cs
    cases h1 : ofVs cs.toList with
    | none => simp [h1] at h
    | some ds =>
      simp only [h1, Option.map_some, Option.some.injEq] at h
      subst h
      obtain ⟨g1, g2, g3⟩ := ofVs_rep (φ := φ) (w := w) h1
      refine ⟨.agg cs ds (by simpa using g1) (fun d hd => (g2 d hd).1) (fun i v d hv hd => g3 i v d (by simpa using hv) hd), rfl, ?_⟩
      simp only [D.lvl]
      exact Nat.le_zero.1 (lvlAll_le.2 fun d hd => Nat.le_of_eq (g2 d hd).2)
  · obtain ⟨g1, g2, g3⟩ := ofV_rep (φ := φ) (w := w) h
    refine ⟨g1, ?_, g3⟩
    cases d <;> first | rfl | simp [D.one] at g2

theorem opd_rep {x : Operand} {y : Opd} {d : D} (hx : cOpd x = some y) (hd : y.ev ρ = some d) (he : EnvR φ w a ρ) : Rep φ w (a.eval x) d := by
  cases x with
  | tmp t =>
    simp only [cOpd, Option.some.injEq] at hx; subst hx
    obtain ⟨v, h1, h2⟩ := he t d hd
    simpa [Act.eval, Array.getD_eq_getD_getElem?, h1] using h2
  | const v =>
    simp only [cOpd] at hx
    cases h : ofW v with
    | none => simp [h] at hx
    | some e =>
      simp only [h, Option.map_some, Option.some.injEq] at hx; subst hx
      simp only [Opd.ev, Option.some.injEq] at hd; subst hd
      exact (ofW_rep h).1
  | func f =>
    simp only [cOpd, Option.some.injEq] at hx; subst hx
    simp only [Opd.ev, Option.some.injEq] at hd; subst hd
    exact .fn _ _ _ _ _ rfl rfl (by simp) (by simp)
  | global g => simp [cOpd] at hx

theorem opds_rep : ∀ {xs : List Operand} {ys : List Opd} {ds : List D}, cOpds xs = some ys → evAll ρ ys = some ds → EnvR φ w a ρ →
    xs.length = ds.length ∧ ∀ (i : Nat) (v : Value) (d : D), (xs.map a.eval)[i]? = some v → ds[i]? = some d → Rep φ w v d
  | [], ys, ds, h, hd, he => by
    simp only [cOpds, Option.some.injEq] at h; subst h
    simp only [evAll, Option.some.injEq] at hd; subst hd
    simp
  | x :: r, ys, ds, h, hd, he => by
    simp only [cOpds] at h
    split at h <;> simp only [Option.some.injEq, reduceCtorEq] at h
    rename_i y ys' h1 h2
    subst h
    simp only [evAll] at hd
    obtain ⟨e, h3, hd⟩ := bnd_eq hd
    obtain ⟨es, h4, hd⟩ := bnd_eq hd
    simp only [Option.some.injEq] at hd; subst hd
    obtain ⟨g1, g2⟩ := opds_rep h2 h4 he
    refine ⟨by simp [g1], fun i v d hv hd => ?_⟩
    cases i with
    | zero => simp at hv hd; subst hv; subst hd; exact opd_rep h1 h3 he
    | succ i => exact g2 i v d (by simpa using hv) (by simpa using hd)

/-! ### Inversion of readings -/
theorem Rep.int_inv {v : Value} {k : IntKind} {n : Int} (h : Rep φ w v (.int k n)) : v = .int k n := by cases h; rfl
theorem Rep.bool_inv {v : Value} {b : Bool} (h : Rep φ w v (.bool b)) : v = .bool b := by cases h; rfl
theorem Rep.str_inv {v : Value} {s : List UInt8} (h : Rep φ w v (.str s)) : v = .string ⟨s.toArray⟩ := by cases h; rfl
theorem Rep.asI_inv {v : Value} {d : D} {n : Int} (h : Rep φ w v d) (hd : asI d = some n) : ∃ k, v = .int k n ∧ d = .int k n := by
  cases d <;> simp [asI] at hd
  subst hd; exact ⟨_, h.int_inv, rfl⟩
theorem Rep.asB_inv {v : Value} {d : D} {b : Bool} (h : Rep φ w v d) (hd : asB d = some b) : v = .bool b := by
  cases d <;> simp [asB] at hd
  subst hd; exact h.bool_inv
theorem Rep.asStr_inv {v : Value} {d : D} {s : List UInt8} (h : Rep φ w v d) (hd : asStr d = some s) : v = .string ⟨s.toArray⟩ := by
  cases d <;> simp [asStr] at hd
  subst hd; exact h.str_inv
theorem Rep.asAgg_inv {v : Value} {d : D} {ds : List D} (h : Rep φ w v d) (hd : asAgg d = some ds) :
    ∃ cs : Array Value, v = .agg cs ∧ cs.size = ds.length ∧ (∀ d ∈ ds, d.one = true) ∧ ∀ (i : Nat) (v : Value) (d : D), cs[i]? = some v → ds[i]? = some d → Rep φ w v d := by
  cases d <;> simp [asAgg] at hd
  subst hd
  cases h with
  | agg cs ds hl h1 h => exact ⟨cs, rfl, hl, h1, h⟩
theorem Rep.one_cell {v : Value} {d : D} (h : Rep φ w v d) (h1 : d.one = true) : v.oneCell' = true := by
  cases h <;> first | rfl | simp [D.one] at h1

/-- The cells of what is laid into memory. -/
theorem Rep.cells {v : Value} {d : D} (h : Rep φ w v d) (hs : d.stb = true) :
    v.cells.size = d.cells.length ∧ (∀ e ∈ d.cells, e.one = true) ∧ ∀ (i : Nat) (u : Value) (e : D), v.cells[i]? = some u → d.cells[i]? = some e → Rep φ w u e := by
  by_cases hd : ∃ ds, d = .agg ds
  · obtain ⟨ds, rfl⟩ := hd
    cases h with
    | agg cs ds hl h1 h => exact ⟨hl, h1, h⟩
  · have h1 : d.one = true := by cases d <;> first | rfl | (exact absurd ⟨_, rfl⟩ hd) | simp [D.stb] at hs
    have hv := h.one_cell h1
    have e1 : v.cells = #[v] := by cases v <;> first | rfl | simp [Value.oneCell'] at hv
    have e2 : d.cells = [d] := by cases d <;> first | rfl | (exact absurd ⟨_, rfl⟩ hd)
    rw [e1, e2]
    refine ⟨rfl, by simpa using h1, fun i u e hu he => ?_⟩
    cases i with
    | zero => simp at hu he; subst hu; subst he; exact h
    | succ i => simp at hu

theorem add_at (g o j : Nat) : (⟨g, o, none⟩ : Addr).add j = ⟨g, o + j, none⟩ := by unfold Addr.add; split <;> simp_all

theorem inRange_eq {i : Int} {n m : Nat} (h : inRange i n = some m) : 0 ≤ i ∧ i < n ∧ m = i.toNat ∧ m < n := by
  obtain ⟨h1, h2⟩ := brk_none h
  simp only [decide_eq_true_eq] at h1
  simp only [Option.some.injEq] at h2
  exact ⟨h1.1, h1.2, h2.symm, by omega⟩
theorem inBound_eq {i : Int} {n m : Nat} (h : inBound i n = some m) : 0 ≤ i ∧ i ≤ n ∧ m = i.toNat ∧ m ≤ n := by
  obtain ⟨h1, h2⟩ := brk_none h
  simp only [decide_eq_true_eq] at h1
  simp only [Option.some.injEq] at h2
  exact ⟨h1.1, h1.2, h2.symm, by omega⟩

/-! ### Layout facts of the program -/
theorem sizeT_run {t : TypeId} {n : Nat} (h : sizeT P t = some n) : (Go.sizeOf t).run P w = .ok n w := by
  unfold sizeT at h
  cases hi : P.info? t with
  | none => simp [hi] at h
  | some i => simp [hi] at h; simp [Go.sizeOf, typeInfo, hi, h]
theorem bytesT_run {t : TypeId} {n : Nat} (h : bytesT P t = some n) : ∃ i, P.info? t = some i ∧ i.bytes = n := by
  unfold bytesT at h
  cases hi : P.info? t with
  | none => simp [hi] at h
  | some i => simp [hi] at h; exact ⟨i, rfl, h⟩
theorem underlying_run {t : TypeId} {u : TypeDesc} (h : P.underlying t = some u) : (underlying t).run P w = .ok u w := by simp [underlying, h]
/-- How a variable of a type is loaded. -/
theorem shapeT_run {t : TypeId} {n : Option Nat} (h : shapeT P t = some n) :
    (∃ m, n = some m ∧ (isAgg t).run P w = .ok true w ∧ (Go.sizeOf t).run P w = .ok m w) ∨ (n = none ∧ (isAgg t).run P w = .ok false w ∧ (Go.sizeOf t).run P w = .ok 1 w) := by
  unfold shapeT at h
  split at h
  · rename_i fs i h1 h2
    simp only [Option.some.injEq] at h
    exact .inl ⟨i.size, h.symm, by simp [isAgg, underlying, h1], by simp [Go.sizeOf, typeInfo, h2]⟩
  · rename_i k e i h1 h2
    simp only [Option.some.injEq] at h
    exact .inl ⟨i.size, h.symm, by simp [isAgg, underlying, h1], by simp [Go.sizeOf, typeInfo, h2]⟩
  · rename_i u i n1 n2 h1 h2
    split at h <;> simp only [Option.some.injEq, reduceCtorEq] at h
    rename_i hs
    refine .inr ⟨h.symm, ?_, by simp [Go.sizeOf, typeInfo, h2, hs]⟩
    simp only [isAgg, underlying, Sem.run_bind, run_program, h1, Result.andThen_ok, Sem.run_pure]
  · simp at h

theorem zeroT_run {t : TypeId} {z : D} (h : zeroT P t = some z) : ∃ v, (zeroValue t).run P w = .ok v w ∧ Rep φ w v z ∧ z.stb = true ∧ z.lvl = 0 ∧ ∃ i, P.info? t = some i ∧ i.zero = some v := by
  unfold zeroT at h
  cases hi : P.info? t with
  | none => simp [hi] at h
  | some i =>
    simp only [hi, Option.bind_some] at h
    cases hz : i.zero with
    | none => simp [hz] at h
    | some v =>
      simp only [hz, Option.bind_some] at h
      obtain ⟨g1, g2, g3⟩ := ofW_rep (φ := φ) (w := w) h
      exact ⟨v, by simp [zeroValue, typeInfo, hi, hz], g1, g2, g3, i, rfl, hz⟩

/-- A part of a row of cells. -/
theorem part_run {t : TypeId} {n : Option Nat} {cs : Array Value} {ds : List D} {off : Nat} {d : D} (hsh : shapeT P t = some n) (hp : partD ds off n = some d)
    (hl : cs.size = ds.length) (h1 : ∀ d ∈ ds, d.one = true) (hr : ∀ (i : Nat) (v : Value) (d : D), cs[i]? = some v → ds[i]? = some d → Rep φ w v d) :
    ∃ v, (part t cs off).run P w = .ok v w ∧ Rep φ w v d := by
  rcases shapeT_run (w := w) hsh with ⟨m, rfl, ha, hsz⟩ | ⟨rfl, ha, _⟩
  · simp only [partD] at hp
    obtain ⟨hc, hp⟩ := brk_none hp
    simp only [decide_eq_true_eq] at hc
    simp only [Option.some.injEq] at hp; subst hp
    refine ⟨.agg (cs.extract off (off + m)), by simp [part, ha, hsz], ?_⟩
    refine .agg _ _ (by simp; omega) (fun d hd => h1 d (List.mem_of_mem_drop (List.mem_of_mem_take hd))) fun i v d hv hd => ?_
    rw [Array.getElem?_extract] at hv
    rw [List.getElem?_take] at hd
    split at hd
    · rename_i hi
      rw [List.getElem?_drop] at hd
      rw [if_pos (by omega)] at hv
      exact hr (off + i) v d hv hd
    · cases hd
  · simp only [partD] at hp
    have : off < ds.length := by
      rcases Nat.lt_or_ge off ds.length with h | h
      · exact h
      · rw [List.getElem?_eq_none h] at hp; cases hp
    have hv : cs[off]? = some (cs[off]'(by omega)) := Array.getElem?_eq_getElem (by omega)
    exact ⟨_, by simp [part, ha, hv], hr off _ d hv hp⟩
end
end AM
/- The operations that only compute: the abstract machine's answer is read off the model's. -/
namespace AM
open Go

section
variable {φ : Refs} {w : World} {a : Act} {ρ : Env} {P : Program} {bar T : Nat} {h h' : Heap} {d : D}

theorem exec_of {o : Oper} {op : Op} (ho : o.op = op) : execOp a.eval o = execOp a.eval { o with op := op } := by subst ho; rfl

/-! ### Arithmetic -/
theorem binI_run {op : BinOp} {k : IntKind} {x y : Int} {d : D} (h : binI op k x y = some d) :
    ∃ v, (match op with
      | .add | .sub | .mul => Op.intArith op k x y
      | .quo | .rem => Op.intDiv op k x y
      | .and | .or | .xor | .andNot => Op.intBits op k x y
      | _ => Op.intCmp op x y).run P w = .ok v w ∧ Rep φ w v d := by
  cases op <;> simp only [binI, Option.some.injEq, reduceCtorEq] at h
  case add => subst h; exact ⟨_, rfl, .int _ _⟩
  case sub => subst h; exact ⟨_, rfl, .int _ _⟩
  case mul => subst h; exact ⟨_, rfl, .int _ _⟩
  case quo =>
    rcases brk_eq h with ⟨_, h⟩ | ⟨hz, h⟩
    · cases h
    · simp only [decide_eq_false_iff_not] at hz
      simp only [Option.some.injEq] at h; subst h
      exact ⟨_, by simp [Op.intDiv, hz], .int _ _⟩
  case rem =>
    rcases brk_eq h with ⟨_, h⟩ | ⟨hz, h⟩
    · cases h
    · simp only [decide_eq_false_iff_not] at hz
      simp only [Option.some.injEq] at h; subst h
      exact ⟨_, by simp [Op.intDiv, hz], .int _ _⟩
  case and => subst h; exact ⟨_, rfl, .int _ _⟩
  case or => subst h; exact ⟨_, rfl, .int _ _⟩
  case xor => subst h; exact ⟨_, rfl, .int _ _⟩
  case andNot => subst h; exact ⟨_, rfl, .int _ _⟩
  case eql => subst h; exact ⟨_, rfl, show Rep φ w (.bool (decide (x = y))) _ from .bool _⟩
  case neq =>
    subst h
    refine ⟨_, rfl, ?_⟩
    rw [show decide (¬ x = y) = (x != y) from by rw [decide_not]; rfl]
    exact .bool _
  case lss => subst h; exact ⟨_, rfl, .bool _⟩
  case leq => subst h; exact ⟨_, rfl, .bool _⟩
  case gtr => subst h; exact ⟨_, rfl, .bool _⟩
  case geq => subst h; exact ⟨_, rfl, .bool _⟩

theorem lessL_eq : ∀ (x y : List UInt8), Op.bytesLess x y = lessL x y
  | _, [] => by simp [Op.bytesLess, lessL]
  | [], _ :: _ => by simp [Op.bytesLess, lessL]
  | a :: x, b :: y => by simp [Op.bytesLess, lessL, lessL_eq x y]

theorem append_mk (a b : List UInt8) : (⟨a.toArray⟩ : ByteArray) ++ (⟨b.toArray⟩ : ByteArray) = ⟨(a ++ b).toArray⟩ := by
  apply ByteArray.ext
  rw [ByteArray.data_append]
  simp

theorem beqL (a b : List UInt8) : (a == b) = decide (a = b) := by
  by_cases h : a = b <;> simp [h]

theorem binS_run {op : BinOp} {x y : List UInt8} {d : D} (h : binS op x y = some d) : ∃ v, (Op.stringOp op ⟨x.toArray⟩ ⟨y.toArray⟩).run P w = .ok v w ∧ Rep φ w v d := by
  have e1 : (⟨x.toArray⟩ : ByteArray).size = x.length := by simp [ByteArray.size]
  have e2 : (⟨y.toArray⟩ : ByteArray).size = y.length := by simp [ByteArray.size]
  cases op <;> simp only [binS, Option.some.injEq, reduceCtorEq] at h
  case add =>
    obtain ⟨hc, h⟩ := brk_none h
    simp only [decide_eq_true_eq] at hc
    simp only [Option.some.injEq] at h; subst h
    refine ⟨.string ⟨(x ++ y).toArray⟩, ?_, .str _⟩
    have : ¬ (((x.length + y.length : Nat) : Int) > IntKind.i64.max) := by simp [IntKind.max, IntKind.signed, IntKind.bits]; omega
    simp only [Op.stringOp, e1, e2, if_neg this, Sem.run_pure, append_mk]
  case eql => subst h; exact ⟨_, by simp only [Op.stringOp, ByteArray.toList_mk, beqL]; rfl, .bool _⟩
  case neq => subst h; exact ⟨_, by simp only [Op.stringOp, ByteArray.toList_mk, beqL, decide_not]; rfl, .bool _⟩
  case lss => subst h; exact ⟨_, by simp only [Op.stringOp, ByteArray.toList_mk, lessL_eq]; rfl, .bool _⟩
  case leq => subst h; exact ⟨_, by simp only [Op.stringOp, ByteArray.toList_mk, lessL_eq, beqL]; rfl, .bool _⟩
  case gtr => subst h; exact ⟨_, by simp only [Op.stringOp, ByteArray.toList_mk, lessL_eq, beqL]; rfl, .bool _⟩
  case geq => subst h; exact ⟨_, by simp only [Op.stringOp, ByteArray.toList_mk, lessL_eq]; rfl, .bool _⟩

theorem shiftI_run {op : BinOp} {k yk : IntKind} {x y : Int} {d : D} (h : shiftI op k x y = some d) : ∃ v, (Op.shift op k x yk y).run P w = .ok v w ∧ Rep φ w v d := by
  unfold shiftI at h
  rcases brk_eq h with ⟨_, h⟩ | ⟨hz, h⟩
  · cases h
  · simp only [decide_eq_false_iff_not] at hz
    cases op <;> simp only [Option.some.injEq, reduceCtorEq] at h <;> subst h
    · exact ⟨_, by simp [Op.shift, hz], .int _ _⟩
    · exact ⟨_, by simp [Op.shift, hz], .int _ _⟩

theorem binD_run {op : BinOp} {t : TypeId} {x y : D} {u v : Value} {d : D} (hu : Rep φ w u x) (hv : Rep φ w v y) (h : binD op x y = some d) :
    ∃ r, (binOp op t u v).run P w = .ok r w ∧ Rep φ w r d := by
  unfold binD at h
  split at h
  · rename_i k m k' n
    obtain rfl := hu.int_inv
    obtain rfl := hv.int_inv
    split at h
    · exact shiftI_run (yk := k') h
    · exact shiftI_run (yk := k') h
    · rename_i n1 n2
      obtain ⟨hk, h2⟩ := brk_none h
      simp only [decide_eq_true_eq] at hk
      subst hk
      have := binI_run (P := P) (φ := φ) (w := w) h2
      cases op <;> first | (exact absurd rfl n1) | (exact absurd rfl n2) | (simpa [binOp] using this)
  · obtain rfl := hu.str_inv
    obtain rfl := hv.str_inv
    have := binS_run (P := P) (φ := φ) (w := w) h
    cases op <;> simpa [binOp] using this
  · cases h

theorem unD_run {op : UnOp} {x : D} {u : Value} {d : D} (hu : Rep φ w u x) (h : unD op x = some d) : ∃ r, (Op.unary op u).run P w = .ok r w ∧ Rep φ w r d := by
  unfold unD at h
  split at h
  · obtain rfl := hu.int_inv
    cases op <;> simp only [Option.some.injEq, reduceCtorEq] at h <;> subst h
    · exact ⟨_, by simp [Op.unary, Op.intArith], .int _ _⟩
    · exact ⟨_, by simp [Op.unary, Op.intBits], .int _ _⟩
  · obtain rfl := hu.bool_inv
    cases op <;> simp only [Option.some.injEq, reduceCtorEq] at h; subst h
    exact ⟨_, by simp [Op.unary], .bool _⟩
  · cases h

/-! ### Equality -/
theorem skT_eq {t : TypeId} {k : SK} (h : skT P t = some k) : (k = .bool ∧ P.underlying t = some .bool) ∨ (k = .int ∧ ∃ i, P.underlying t = some (.int i)) ∨ (k = .str ∧ P.underlying t = some .string) := by
  unfold skT at h
  split at h <;> simp only [Option.some.injEq, reduceCtorEq] at h <;> subst h
  · exact .inl ⟨rfl, by assumption⟩
  · exact .inr (.inl ⟨rfl, _, by assumption⟩)
  · exact .inr (.inr ⟨rfl, by assumption⟩)

theorem eqSK_run {t : TypeId} {k : SK} {x y : D} {u v : Value} {r : Bool} (n : Nat) (hk : skT P t = some k) (hu : Rep φ w u x) (hv : Rep φ w v y) (h : eqSK k x y = some r) :
    (Op.equalIn (n + 1) t u v).run P w = .ok r w := by
  rcases skT_eq hk with ⟨rfl, ht⟩ | ⟨rfl, i, ht⟩ | ⟨rfl, ht⟩
  · cases x <;> cases y <;> simp only [eqSK, Option.some.injEq, reduceCtorEq] at h
    obtain rfl := hu.bool_inv; obtain rfl := hv.bool_inv
    rename_i b c
    subst h
    simp only [Op.equalIn, Sem.run_bind, underlying_run ht, Result.andThen_ok, Sem.run_pure]
    cases b <;> cases c <;> rfl
  · cases x <;> cases y <;> simp only [eqSK, reduceCtorEq] at h
    obtain rfl := hu.int_inv; obtain rfl := hv.int_inv
    obtain ⟨hk2, h2⟩ := brk_none h
    simp only [decide_eq_true_eq] at hk2
    subst hk2
    simp only [Option.some.injEq] at h2; subst h2
    simp only [Op.equalIn, Sem.run_bind, underlying_run ht, Result.andThen_ok, if_true, Sem.run_pure]
    rfl
  · cases x <;> cases y <;> simp only [eqSK, Option.some.injEq, reduceCtorEq] at h
    obtain rfl := hu.str_inv; obtain rfl := hv.str_inv
    subst h
    rename_i s t'
    rw [run_equalIn_string _ _ _ _ _ ht, ByteArray.toList_mk, ByteArray.toList_mk, beqL]
end
end AM
/- Equality of rows of cells: structs and arrays of numbers, bools and strings. -/
namespace AM
open Go

section
variable {φ : Refs} {w : World} {P : Program}

/-- A value of a type, by its cells. -/
def RowR (φ : Refs) (w : World) (P : Program) (t : TypeId) (u : Value) (xs : List D) : Prop :=
  ((isAgg t).run P w = .ok true w ∧ ∃ cs : Array Value, u = .agg cs ∧ cs.size = xs.length ∧ ∀ (i : Nat) (v : Value) (d : D), cs[i]? = some v → xs[i]? = some d → Rep φ w v d) ∨
  ((isAgg t).run P w = .ok false w ∧ ∃ x, xs = [x] ∧ Rep φ w u x)

theorem rowT_agg {n : Nat} {t : TypeId} {ks : List SK} (h : rowT P n t = some ks) : (isAgg t).run P w = .ok true w ∨ ((isAgg t).run P w = .ok false w ∧ ks.length = 1) := by
  cases n with
  | zero => cases h
  | succ n =>
    simp only [rowT] at h
    split at h
    · rename_i fs hu
      exact .inl (by simp [isAgg, underlying, hu])
    · rename_i len e hu
      exact .inl (by simp [isAgg, underlying, hu])
    · rename_i n1 n2
      cases hk : skT P t with
      | none => simp [hk] at h
      | some k =>
        simp only [hk, Option.map_some, Option.some.injEq] at h; subst h
        refine .inr ⟨?_, rfl⟩
        rcases skT_eq hk with ⟨_, hu⟩ | ⟨_, i, hu⟩ | ⟨_, hu⟩ <;> simp [isAgg, underlying, hu]

/-- A part of a row is a row. -/
theorem rowR_part {n off m : Nat} {t : TypeId} {ks : List SK} {cs : Array Value} {xs : List D} (hr : rowT P n t = some ks) (hs : sizeT P t = some m) (hm : m = ks.length)
    (hl : cs.size = xs.length) (hc : ∀ (i : Nat) (v : Value) (d : D), cs[i]? = some v → xs[i]? = some d → Rep φ w v d) (hb : off + m ≤ xs.length) :
    ∃ u, (part t cs off).run P w = .ok u w ∧ RowR φ w P t u ((xs.drop off).take m) := by
  rcases rowT_agg (w := w) hr with ha | ⟨ha, h1⟩
  · refine ⟨.agg (cs.extract off (off + m)), by simp [part, ha, sizeT_run hs], .inl ⟨ha, _, rfl, by simp; omega, fun i v d hv hd => ?_⟩⟩
    rw [Array.getElem?_extract] at hv
    rw [List.getElem?_take] at hd
    split at hd
    · rw [List.getElem?_drop] at hd
      rw [if_pos (by omega)] at hv
      exact hc (off + i) v d hv hd
    · cases hd
  · have hv : cs[off]? = some (cs[off]'(by omega)) := Array.getElem?_eq_getElem (by omega)
    have hd : xs[off]? = some (xs[off]'(by omega)) := List.getElem?_eq_getElem (by omega)
    refine ⟨_, by simp [part, ha, hv], .inr ⟨ha, xs[off]'(by omega), ?_, hc off _ _ hv hd⟩⟩
    have : m = 1 := by omega
    subst this
    rw [List.take_one, List.head?_drop, hd]
    rfl

theorem eqL_append : ∀ (k1 k2 : List SK) (x1 x2 y1 y2 : List D), x1.length = k1.length → y1.length = k1.length →
    eqL (k1 ++ k2) (x1 ++ x2) (y1 ++ y2) = bnd (eqL k1 x1 y1) fun r => brk r (eqL k2 x2 y2) (some false)
  | [], k2, x1, x2, y1, y2, hx, hy => by
    obtain rfl := List.eq_nil_of_length_eq_zero hx
    obtain rfl := List.eq_nil_of_length_eq_zero hy
    rfl
  | k :: k1, k2, x1, x2, y1, y2, hx, hy => by
    obtain ⟨a, x1, rfl⟩ := List.exists_cons_of_length_eq_add_one hx
    obtain ⟨b, y1, rfl⟩ := List.exists_cons_of_length_eq_add_one hy
    simp only [List.cons_append, eqL]
    cases eqSK k a b with
    | none => rfl
    | some r =>
      cases r
      · rfl
      · simp only [bnd_some, brk_true]
        exact eqL_append k1 k2 x1 x2 y1 y2 (by simpa using hx) (by simpa using hy)

theorem eqL_split {k1 k2 : List SK} {xs ys : List D} {m : Nat} (hm : m = k1.length) (hx : xs.length = k1.length + k2.length) (hy : ys.length = k1.length + k2.length) :
    eqL (k1 ++ k2) xs ys = bnd (eqL k1 (xs.take m) (ys.take m)) fun r => brk r (eqL k2 (xs.drop m) (ys.drop m)) (some false) := by
  have := eqL_append k1 k2 (xs.take m) (xs.drop m) (ys.take m) (ys.drop m) (by simp; omega) (by simp; omega)
  simpa using this

/-- Elements of an array, one by one. -/
def eqElems (d : Nat) (e : TypeId) (n : Nat) (xs ys : Array Value) : List Nat → Sem Bool
  | [] => pure true
  | i :: r => do
    let a ← part e xs (i * n)
    let b ← part e ys (i * n)
    let q ← Op.equalIn d e a b
    if (!q) = true then pure false else eqElems d e n xs ys r

theorem run_equalIn_array (d : Nat) (t e : TypeId) (len n : Nat) (xs ys : Array Value) (ht : P.underlying t = some (.array len e)) (hn : (Go.sizeOf e).run P w = .ok n w) :
    (Op.equalIn (d + 1) t (.agg xs) (.agg ys)).run P w = (eqElems d e n xs ys (List.range' 0 len)).run P w := by
  simp only [Op.equalIn, Sem.run_bind, underlying_run ht, Result.andThen_ok, hn]
  simp only [Std.Legacy.Range.forIn_eq_forIn_range', Std.Legacy.Range.size, Nat.sub_zero, Nat.add_sub_cancel, Nat.div_one]
  generalize List.range' 0 len = l
  clear hn
  induction l generalizing w with
  | nil => simp [eqElems]
  | cons i l ih =>
    simp only [List.forIn_cons, eqElems, Sem.run_bind]
    generalize (part e xs (i * n)).run P w = r1
    cases r1 with
    | ok a w1 =>
      simp only [Result.andThen_ok]
      generalize (part e ys (i * n)).run P w1 = r2
      cases r2 with
      | ok b w2 =>
        simp only [Result.andThen_ok]
        generalize (Op.equalIn d e a b).run P w2 = r3
        cases r3 with
        | ok r w3 =>
          cases r
          · simp only [Result.andThen_ok, Bool.not_false, if_true, Sem.run_pure]
          · simp only [Result.andThen_ok, Bool.not_true, Bool.false_eq_true, if_false, Sem.run_pure]
            exact ih (w := w3)
        | halt x w3 => simp [Result.andThen]
      | halt x w2 => simp [Result.andThen]
    | halt x w1 => simp [Result.andThen]

theorem rowAs_length (ks : List SK) : ∀ n, (rowAs ks n).length = n * ks.length
  | 0 => by simp [rowAs]
  | n + 1 => by simp [rowAs, rowAs_length ks n, Nat.succ_mul, Nat.add_comm]

theorem equal_row : ∀ (n : Nat) (t : TypeId) (ks : List SK) (d : Nat) (u v : Value) (xs ys : List D) (r : Bool), rowT P n t = some ks → n ≤ d →
    xs.length = ks.length → ys.length = ks.length → RowR φ w P t u xs → RowR φ w P t v ys → eqL ks xs ys = some r → (Op.equalIn d t u v).run P w = .ok r w
  | 0, _, _, _, _, _, _, _, _, h, _, _, _, _, _, _ => by cases h
  | n + 1, t, ks, d, u, v, xs, ys, r, h, hd, hx, hy, hu, hv, he => by
    obtain ⟨d, rfl⟩ : ∃ m, d = m + 1 := ⟨d - 1, by omega⟩
    simp only [rowT] at h
    split at h
    · rename_i fs htu
      split at h
      · cases h
      · rename_i hst
        have hst : P.stoodInHeld t = false := by simpa using hst
        have ha : (isAgg t).run P w = .ok true w := by simp [isAgg, underlying, htu]
        rcases hu with ⟨_, cs1, rfl, hl1, hc1⟩ | ⟨h1, _⟩
        · rcases hv with ⟨_, cs2, rfl, hl2, hc2⟩ | ⟨h1, _⟩
          · have hf : P.fieldsOf t = fs := by simp [Program.fieldsOf, htu]
            rw [run_equalIn_struct w d t cs1 cs2 (by rw [hf]; exact htu) hst, hf]
            have key : ∀ (l : List Field) (off : Nat) (ks : List SK), rowFs P (rowT P n) l off = some ks → off + ks.length = xs.length → off + ks.length = ys.length →
                ∀ r, eqL ks (xs.drop off) (ys.drop off) = some r → (Op.eqFields d cs1 cs2 l).run P w = .ok r w := by
              intro l
              induction l with
              | nil =>
                intro off ks h h1 h2 r he
                simp only [rowFs, Option.some.injEq] at h; subst h
                rw [List.drop_of_length_le (by simp at h1; omega), List.drop_of_length_le (by simp at h2; omega)] at he
                simp only [eqL, Option.some.injEq] at he; subst he
                simp [Op.eqFields]
              | cons f l ih =>
                intro off ks h h1 h2 r he
                simp only [rowFs] at h
                split at h
                · rename_i hcond
                  obtain ⟨hn1, hn2⟩ := hcond
                  split at h
                  · rename_i kf hkf
                    split at h
                    · rename_i m rs hm hrs
                      split at h
                      · rename_i hmk
                        simp only [Option.some.injEq] at h; subst h
                        simp only [List.length_append] at h1 h2
                        rw [eqL_split hmk (by simp; omega) (by simp; omega)] at he
                        obtain ⟨q, hq, he⟩ := bnd_eq he
                        obtain ⟨a, ha1, ha2⟩ := rowR_part (φ := φ) (w := w) (off := off) hkf hm hmk hl1 hc1 (by omega)
                        obtain ⟨b, hb1, hb2⟩ := rowR_part (φ := φ) (w := w) (off := off) hkf hm hmk hl2 hc2 (by omega)
                        have e1 := equal_row n f.type kf d a b _ _ q hkf (by omega) (by simp; omega) (by simp; omega) ha2 hb2 hq
                        have hname : f.name ≠ "_" := by simpa using hn1
                        simp only [Op.eqFields, if_pos hname, hn2, Sem.run_bind, ha1, hb1, Result.andThen_ok, e1]
                        cases q
                        · simp only [brk_false, Option.some.injEq] at he; subst he
                          simp
                        · simp only [brk_true] at he
                          simp only [Bool.not_true, Bool.false_eq_true, if_false]
                          exact ih (off + kf.length) rs (by rw [← hmk] at hrs; rw [← hmk]; exact hrs) (by omega) (by omega) r (by simpa [List.drop_drop, hmk] using he)
                      · cases h
                    · cases h
                  · cases h
                · cases h
            exact key fs.toList 0 ks h (by omega) (by omega) r (by simpa using he)
          · rw [ha] at h1; cases h1
        · rw [ha] at h1; cases h1
    · rename_i len e htu
      split at h
      · rename_i ke s hke hs
        split at h
        · rename_i hsk
          simp only [Option.some.injEq] at h; subst h
          have ha : (isAgg t).run P w = .ok true w := by simp [isAgg, underlying, htu]
          rcases hu with ⟨_, cs1, rfl, hl1, hc1⟩ | ⟨h1, _⟩
          · rcases hv with ⟨_, cs2, rfl, hl2, hc2⟩ | ⟨h1, _⟩
            · rw [run_equalIn_array d t e len s cs1 cs2 htu (sizeT_run hs)]
              rw [rowAs_length] at hx hy
              have key : ∀ (m i : Nat), i + m = len → ∀ r, eqL (rowAs ke m) (xs.drop (i * s)) (ys.drop (i * s)) = some r → (eqElems d e s cs1 cs2 (List.range' i m)).run P w = .ok r w := by
                intro m
                induction m with
                | zero =>
                  intro i hi r he
                  have : i * s = len * ke.length := by rw [← hsk, show i = len by omega]
                  rw [List.drop_of_length_le (by omega), List.drop_of_length_le (by omega)] at he
                  simp only [rowAs, eqL, Option.some.injEq] at he; subst he
                  simp [eqElems]
                | succ m ih =>
                  intro i hi r he
                  have hle : i * s + s + m * s = len * s := by rw [← hi, Nat.add_mul, Nat.add_mul, Nat.one_mul]; omega
                  simp only [rowAs] at he
                  rw [← hsk] at hx hy
                  rw [eqL_split hsk (by rw [rowAs_length, ← hsk, List.length_drop]; omega) (by rw [rowAs_length, ← hsk, List.length_drop]; omega)] at he
                  obtain ⟨q, hq, he⟩ := bnd_eq he
                  obtain ⟨a, ha1, ha2⟩ := rowR_part (φ := φ) (w := w) (off := i * s) hke hs hsk hl1 hc1 (by omega)
                  obtain ⟨b, hb1, hb2⟩ := rowR_part (φ := φ) (w := w) (off := i * s) hke hs hsk hl2 hc2 (by omega)
                  have e1 := equal_row n e ke d a b _ _ q hke (by omega) (by simp; omega) (by simp; omega) ha2 hb2 hq
                  simp only [List.range'_succ, eqElems, Sem.run_bind, ha1, hb1, Result.andThen_ok, e1]
                  cases q
                  · simp only [brk_false, Option.some.injEq] at he; subst he
                    simp
                  · simp only [brk_true] at he
                    simp only [Bool.not_true, Bool.false_eq_true, if_false]
                    exact ih (i + 1) (by omega) r (by simpa [List.drop_drop, Nat.add_mul] using he)
              exact key len 0 (by omega) r (by simpa using he)
            · rw [ha] at h1; cases h1
          · rw [ha] at h1; cases h1
        · cases h
      · cases h
    · rename_i n1 n2
      cases hk : skT P t with
      | none => simp [hk] at h
      | some k =>
        simp only [hk, Option.map_some, Option.some.injEq] at h; subst h
        have ha : (isAgg t).run P w = .ok false w := by rcases skT_eq hk with ⟨_, hu⟩ | ⟨_, i, hu⟩ | ⟨_, hu⟩ <;> simp [isAgg, underlying, hu]
        rcases hu with ⟨h1, _⟩ | ⟨_, x, rfl, hxr⟩
        · rw [ha] at h1; cases h1
        · rcases hv with ⟨h1, _⟩ | ⟨_, y, rfl, hyr⟩
          · rw [ha] at h1; cases h1
          · simp only [eqL] at he
            obtain ⟨q, hq, he⟩ := bnd_eq he
            have : q = r := by cases q <;> simpa using he
            subst this
            exact eqSK_run d hk hxr hyr hq
end
end AM
/- The operations that only compute, all together. -/
namespace AM
open Go

section
variable {φ : Refs} {w : World} {a : Act} {ρ : Env} {P : Program} {bar T : Nat} {h h' : Heap} {d : D}

theorem row_of_agg {t : TypeId} {n : Nat} {ks : List SK} {u : Value} {xs : List D} (_hr : rowT P n t = some ks) (hag : (isAgg t).run P w = .ok true w) (hu : Rep φ w u (.agg xs)) : RowR φ w P t u xs := by
  cases hu with
  | agg cs ds hl h1 h => exact .inl ⟨hag, cs, rfl, hl, h⟩

theorem eqT_inv {t : TypeId} {e : EqT} (h : eqT P t = some e) : match e with
    | .bool => P.underlying t = some .bool
    | .ptr => ∃ x, P.underlying t = some (.pointer x)
    | .sl => ∃ x, P.underlying t = some (.slice x)
    | .map => ∃ x y, P.underlying t = some (.map x y)
    | .fn => ∃ x y z, P.underlying t = some (.func x y z)
    | .ifc => ∃ x, P.underlying t = some (.interface x)
    | .row ks => (isAgg t).run P w = .ok true w ∧ P.eqGuardType P.depth t = false ∧ rowT P 20 t = some ks := by
  unfold eqT at h
  split at h
  · rename_i fs hu
    split at h
    · cases h
    · rename_i hg
      cases hk : rowT P 20 t with
      | none => simp [hk] at h
      | some ks =>
        simp only [hk, Option.map_some, Option.some.injEq] at h; subst h
        exact ⟨by simp [isAgg, underlying, hu], by simpa using hg, rfl⟩
  · rename_i len x hu
    split at h
    · cases h
    · rename_i hg
      cases hk : rowT P 20 t with
      | none => simp [hk] at h
      | some ks =>
        simp only [hk, Option.map_some, Option.some.injEq] at h; subst h
        exact ⟨by simp [isAgg, underlying, hu], by simpa using hg, rfl⟩
  · simp only [Option.some.injEq] at h; subst h; assumption
  · simp only [Option.some.injEq] at h; subst h; exact ⟨_, by assumption⟩
  · simp only [Option.some.injEq] at h; subst h; exact ⟨_, by assumption⟩
  · simp only [Option.some.injEq] at h; subst h; exact ⟨_, _, by assumption⟩
  · simp only [Option.some.injEq] at h; subst h; exact ⟨_, _, _, by assumption⟩
  · simp only [Option.some.injEq] at h; subst h; exact ⟨_, by assumption⟩
  · cases h

/-- '==' and '!=' of values that are neither numbers nor strings. -/
theorem eq_fin {t : TypeId} {u v : Value} {ox oy : Operand} {op : BinOp} {b : Bool} (hop : op = .eql ∨ op = .neq) (h1 : (eqGuard op t ox oy u v).run P w = .ok () w)
    (h2 : ∀ m, 20 ≤ m → (Op.equalIn m t u v).run P w = .ok b w)
    (h3 : binOp op t u v = if op = .neq then (do pure (.bool (!(← Op.equal t u v))) : Sem Value) else do pure (.bool (← Op.equal t u v))) :
    (do eqGuard op t ox oy u v; binOp op t u v : Sem Value).run P w = .ok (.bool (if op = .neq then !b else b)) w := by
  have h5 : ∃ n, 20 ≤ n ∧ Op.equal t u v = Op.equalIn n t u v := ⟨Op.maxDepth, by unfold Op.maxDepth; omega, rfl⟩
  obtain ⟨n, hn, h5⟩ := h5
  have h4 : (Op.equal t u v).run P w = .ok b w := by rw [h5]; exact h2 n hn
  clear h5 h2
  simp only [Sem.run_bind, h1, Result.andThen_ok, h3]
  rcases hop with rfl | rfl <;> simp [h4]

theorem eqT_run {t : TypeId} {e : EqT} {x y : D} {u v : Value} {ox oy : Operand} {op : BinOp} {r : Bool} (hop : op = .eql ∨ op = .neq)
    (he : eqT P t = some e) (hu : Rep φ w u x) (hv : Rep φ w v y) (hr : eqD (isConst ox || isConst oy) e x y = some r) :
    (do eqGuard op t ox oy u v; binOp op t u v : Sem Value).run P w = .ok (.bool (if op = .neq then !r else r)) w := by
  have hi := eqT_inv (w := w) he
  unfold eqD at hr
  split at hr
  case h_2 ks xs ys =>
    obtain ⟨hag, hg, hk⟩ := hi
    obtain ⟨hl, hr⟩ := brk_none hr
    simp only [decide_eq_true_eq] at hl
    have h2 := fun m (hm : 20 ≤ m) => equal_row 20 t ks m u v _ _ r hk hm hl.1 hl.2 (row_of_agg hk hag hu) (row_of_agg hk hag hv) hr
    cases hu; cases hv
    refine eq_fin hop ?_ h2 ?_
    · exact run_eqGuard_agg w op t ox oy _ _ hg
    · rcases hop with rfl | rfl <;> rfl
  case h_15 =>
    obtain ⟨ms, hi⟩ := hi
    obtain ⟨hc, hr⟩ := brk_none hr
    simp only [Option.some.injEq] at hr; subst hr
    cases hu; cases hv
    refine eq_fin hop ?_ (fun m hm => by obtain ⟨m, rfl⟩ : ∃ k, m = k + 1 := ⟨m - 1, by omega⟩; simp only [Op.equalIn, Sem.run_bind, underlying_run hi, Result.andThen_ok, Sem.run_pure]) ?_
    · clear he; rcases hop with rfl | rfl <;> cases ox <;> cases oy <;> first | rfl | (simp [isConst] at hc)
    · rcases hop with rfl | rfl <;> rfl
  case h_18 => cases hr
  case h_1 =>
    simp only [Option.some.injEq] at hr; subst hr
    cases hu; cases hv
    rename_i b c
    refine eq_fin hop ?_ (fun m hm => ?_) ?_
    · rcases hop with rfl | rfl <;> rfl
    · obtain ⟨m, rfl⟩ : ∃ k, m = k + 1 := ⟨m - 1, by omega⟩
      simp only [Op.equalIn, Sem.run_bind, underlying_run hi, Result.andThen_ok, Sem.run_pure]
      cases b <;> cases c <;> rfl
    · rcases hop with rfl | rfl <;> rfl
  all_goals
    simp only [Option.some.injEq] at hr; subst hr
    cases hu; cases hv
    first | obtain ⟨x1, hi⟩ := hi | skip
    first | obtain ⟨x2, hi⟩ := hi | skip
    first | obtain ⟨x3, hi⟩ := hi | skip
    refine eq_fin hop ?_ (fun m hm => ?_) ?_
    · rcases hop with rfl | rfl <;> rfl
    · obtain ⟨m, rfl⟩ : ∃ k, m = k + 1 := ⟨m - 1, by omega⟩
      simp only [Op.equalIn, Sem.run_bind, underlying_run hi, Result.andThen_ok, Sem.run_pure, Option.isNone_none, Option.isNone_some]
    · rcases hop with rfl | rfl <;> rfl
end
end AM
/- Every operation that only computes: the abstract machine's answer is what the model's operation hands back. -/
namespace AM
open Go

def isPure : AOp → Bool
  | .mv _ | .nck _ | .pick .. | .fa .. | .iaA .. | .iaS .. | .ixS .. | .ixA .. | .fld .. | .build .. | .slS .. | .bin .. | .eq .. | .un .. | .cvI .. | .cvSS .. | .mx .. | .mn .. | .mkf .. | .mki .. | .tas .. | .ext .. | .lenS .. | .lenV .. => true
  | _ => false

section
variable {φ : Refs} {w : World} {a : Act} {ρ : Env} {P : Program} {bar T : Nat} {h h' : Heap} {d : D}

theorem some_pair {α β : Type} {x x' : α} {y y' : β} (h : some (x, y) = some (x', y')) : x = x' ∧ y = y' := by
  simp only [Option.some.injEq, Prod.mk.injEq] at h; exact h

/-! bounds of slices -/
theorem bound_run {ρ : Env} {lo : Option Operand} {lo' : Option Opd} {dflt n b : Nat} (hc : cOpt lo = some lo') (he : EnvR φ w a ρ) (hb : bound ρ lo' dflt n = some b) :
    (lo = none ∧ lo' = none ∧ b = dflt) ∨ (∃ x k i, lo = some x ∧ a.eval x = .int k i ∧ 0 ≤ i ∧ i ≤ n ∧ b = i.toNat) := by
  cases lo with
  | none =>
    simp only [cOpt, Option.some.injEq] at hc; subst hc
    simp only [bound, Option.some.injEq] at hb
    exact .inl ⟨rfl, rfl, hb.symm⟩
  | some x =>
    simp only [cOpt] at hc
    cases hx : cOpd x with
    | none => simp [hx] at hc
    | some y =>
      simp only [hx, Option.map_some, Option.some.injEq] at hc; subst hc
      simp only [bound] at hb
      obtain ⟨e, h1, hb⟩ := bnd_eq hb
      obtain ⟨i, h2, hb⟩ := bnd_eq hb
      obtain ⟨k, h3, _⟩ := (opd_rep hx h1 he).asI_inv h2
      obtain ⟨g1, g2, g3, _⟩ := inBound_eq hb
      exact .inr ⟨x, k, i, rfl, h3, g1, g2, g3⟩

theorem sliceBound_run {k : IntKind} {i : Int} {y : Nat} {code : BoundsCode} (h0 : 0 ≤ i) (h1 : i ≤ y) : (Instr.sliceBound (.int k i) y code).run P w = .ok i.toNat w := by
  simp [Instr.sliceBound, asIntOf, h0, h1]

/-- The bounds of a slice expression without a third index. -/
theorem sliceBounds_run {ρ : Env} {isS : Bool} {lo hi : Option Operand} {lo' hi' : Option Opd} {len cap lim x y : Nat} (h1 : cOpt lo = some lo') (h2 : cOpt hi = some hi') (he : EnvR φ w a ρ)
    (hy : y ≤ cap) (hb : bound ρ hi' len lim = some y) (ha : bound ρ lo' 0 y = some x) :
    (Instr.sliceBounds isS len cap (lo.map a.eval) (hi.map a.eval) none).run P w = .ok (x, y, cap) w ∧ x ≤ y ∧ (y = len ∨ y ≤ lim) := by
  rcases bound_run h2 he hb with ⟨rfl, rfl, rfl⟩ | ⟨u, k, i, rfl, hu, g1, g2, rfl⟩
  · rcases bound_run h1 he ha with ⟨rfl, rfl, rfl⟩ | ⟨v, k', j, rfl, hv, f1, f2, rfl⟩
    · simp [Instr.sliceBounds]
    · simp [Instr.sliceBounds, hv, sliceBound_run f1 f2]; omega
  · have hc : i ≤ (cap : Int) := by omega
    rcases bound_run h1 he ha with ⟨rfl, rfl, rfl⟩ | ⟨v, k', j, rfl, hv, f1, f2, rfl⟩
    · simp [Instr.sliceBounds, hu, sliceBound_run g1 hc]; omega
    · simp [Instr.sliceBounds, hu, hv, sliceBound_run g1 hc, sliceBound_run f1 f2]; omega

theorem fillFold (off : Nat) : ∀ (l : List Value) (k : Nat) (cs : Array Value), off + k + l.length ≤ cs.size →
    ((l.zipIdx k).foldl (fun (cs : Array Value) (p : Value × Nat) => cs.setIfInBounds (off + p.2) p.1) cs).toList = cs.toList.take (off + k) ++ l ++ cs.toList.drop (off + k + l.length)
  | [], k, cs, _ => by simp
  | v :: r, k, cs, hl => by
    simp only [List.zipIdx_cons, List.foldl_cons]
    rw [fillFold off r (k + 1) _ (by simp at hl ⊢; omega)]
    have e := list_seg_step cs.toList (off + k) v r (by simp at hl ⊢; omega)
    simpa [Array.toList_setIfInBounds, Nat.add_assoc] using e

/-- Readings of a row of cells. -/
def RowC (φ : Refs) (w : World) (cs : List Value) (ds : List D) : Prop :=
  cs.length = ds.length ∧ (∀ d ∈ ds, d.one = true) ∧ ∀ (i : Nat) (v : Value) (d : D), cs[i]? = some v → ds[i]? = some d → Rep φ w v d

theorem RowC.put {cs new : List Value} {ds nd : List D} (h1 : RowC φ w cs ds) (h2 : RowC φ w new nd) (off : Nat) (hb : off + nd.length ≤ ds.length) :
    RowC φ w (cs.take off ++ new ++ cs.drop (off + new.length)) (putCells ds off nd) := by
  obtain ⟨a1, a2, a3⟩ := h1
  obtain ⟨b1, b2, b3⟩ := h2
  refine ⟨by simp [putCells]; omega, ?_, ?_⟩
  · intro d hd
    simp only [putCells, List.mem_append] at hd
    rcases hd with (hd | hd) | hd
    · exact a2 d (List.mem_of_mem_take hd)
    · exact b2 d hd
    · exact a2 d (List.mem_of_mem_drop hd)
  · intro i v d hv hd
    simp only [putCells] at hd
    rcases Nat.lt_or_ge i off with hi | hi
    · rw [List.append_assoc, List.getElem?_append_left (by simp; omega), List.getElem?_take_of_lt hi] at hv hd
      exact a3 i v d hv hd
    · rcases Nat.lt_or_ge i (off + nd.length) with hj | hj
      · rw [List.append_assoc, List.getElem?_append_right (by simp; omega), List.getElem?_append_left (by simp; omega)] at hv hd
        simp only [List.length_take] at hv hd
        rw [Nat.min_eq_left (by omega)] at hv hd
        exact b3 (i - off) v d hv hd
      · rw [List.getElem?_append_right (by simp; omega)] at hv hd
        simp only [List.length_append, List.length_take, List.getElem?_drop] at hv hd
        rw [Nat.min_eq_left (by omega)] at hv hd
        rw [show off + new.length + (i - (off + new.length)) = i by omega] at hv
        rw [show off + nd.length + (i - (off + nd.length)) = i by omega] at hd
        exact a3 i v d hv hd

theorem Rep.rowC {v : Value} {d : D} (h : Rep φ w v d) (hs : d.stb = true) : RowC φ w v.cells.toList d.cells := by
  obtain ⟨h1, h2, h3⟩ := h.cells hs
  exact ⟨by simpa using h1, h2, fun i u e hu he => h3 i u e (by simpa using hu) he⟩

theorem fills_run {place : Nat → Option (Nat × Nat)} {f : Nat → Option (Nat × Nat)} (hpf : ∀ i p, f i = some p → place i = some p) : ∀ {ps : List (Nat × Operand)} {qs : List (Nat × Nat × Opd)} {cs : Array Value} {ds r : List D},
    cParts f ps = some qs → EnvR φ w a ρ → fills ρ qs ds = some r → RowC φ w cs.toList ds →
    ∃ cs', Instr.fill place cs (ps.map fun p => (p.1, a.eval p.2)) = some cs' ∧ RowC φ w cs'.toList r ∧ cs'.size = cs.size
  | [], qs, cs, ds, r, hc, he, hf, hr => by
    simp only [cParts, Option.some.injEq] at hc; subst hc
    simp only [fills, Option.some.injEq] at hf; subst hf
    exact ⟨cs, rfl, hr, rfl⟩
  | (i, x) :: ps, qs, cs, ds, r, hc, he, hf, hr => by
    simp only [cParts] at hc
    split at hc <;> simp only [Option.some.injEq, reduceCtorEq] at hc
    rename_i off sz y ys h1 h2 h3
    subst hc
    simp only [fills] at hf
    obtain ⟨e, h4, hf⟩ := bnd_eq hf
    obtain ⟨hq, hf⟩ := brk_none hf
    simp only [Bool.and_eq_true, decide_eq_true_eq] at hq
    obtain ⟨hst, hz, hb⟩ := hq
    have he1 := (opd_rep h2 h4 he).rowC hst
    have hlen : (a.eval x).cells.size = sz := by have := he1.1; simp at this; omega
    have hcs : cs.size = ds.length := by simpa using hr.1
    have hput := hr.put he1 off (by omega)
    have hfold := fillFold off (a.eval x).cells.toList 0 cs (by simp; omega)
    have hex : ∃ c2 : Array Value, (a.eval x).cells.zipIdx.foldl (fun cs p => cs.setIfInBounds (off + p.2) p.1) cs = c2 ∧ RowC φ w c2.toList (putCells ds off e.cells) ∧ c2.size = cs.size := by
      refine ⟨_, rfl, ?_, ?_⟩
      · rw [← Array.foldl_toList, Array.toList_zipIdx, hfold]; simpa using hput
      · have : ((a.eval x).cells.zipIdx.foldl (fun cs p => cs.setIfInBounds (off + p.2) p.1) cs).toList.length = cs.size := by
          rw [← Array.foldl_toList, Array.toList_zipIdx, hfold]; simp; omega
        simpa using this
    obtain ⟨c2, g1, g2, g3⟩ := hex
    obtain ⟨c3, f1, f2, f3⟩ := fills_run hpf h3 he hf g2
    refine ⟨c3, ?_, f2, by omega⟩
    simp only [List.map_cons, Instr.fill, hpf i _ h1]
    rw [if_neg (by simp; omega)]
    rw [← f1, ← g1]
end
end AM
/- Every operation that only computes: all of them in one theorem. -/
namespace AM
open Go

section
variable {φ : Refs} {w : World} {a : Act} {ρ : Env} {P : Program} {bar T : Nat} {h h' : Heap} {d : D}

theorem cParts_build {fs : Array Field} (hall : fs.toList.all (fun f => (sizeT P f.type).isSome) = true) :
    ∃ pl : Array (Nat × Nat), (fs.mapM fun f => do pure (f.offset, ← Go.sizeOf f.type) : Go.Sem (Array (Nat × Nat))).run P w = .ok pl w ∧
      ∀ (i : Nat) (p : Nat × Nat), ((fs[i]?).bind fun f => (sizeT P f.type).map fun n => (f.offset, n)) = some p → pl[i]? = some p := by
  have key : ∀ (l : List Field), l.all (fun f => (sizeT P f.type).isSome) = true → ∃ pl : List (Nat × Nat), (l.mapM fun f => do pure (f.offset, ← Go.sizeOf f.type) : Go.Sem (List (Nat × Nat))).run P w = .ok pl w ∧
      ∀ (i : Nat) (p : Nat × Nat), ((l[i]?).bind fun f => (sizeT P f.type).map fun n => (f.offset, n)) = some p → pl[i]? = some p := by
    intro l
    induction l with
    | nil => intro _; exact ⟨[], by simp, by simp⟩
    | cons f l ih =>
      intro hl
      simp only [List.all_cons, Bool.and_eq_true] at hl
      obtain ⟨n, hn⟩ := Option.isSome_iff_exists.1 hl.1
      obtain ⟨pl, g1, g2⟩ := ih hl.2
      refine ⟨(f.offset, n) :: pl, by simp only [List.mapM_cons, Sem.run_bind, Sem.run_pure, sizeT_run hn, Result.andThen_ok, g1], ?_⟩
      intro i p hp
      cases i with
      | zero => simpa [hn] using hp
      | succ i => simpa using g2 i p (by simpa using hp)
  obtain ⟨pl, g1, g2⟩ := key fs.toList hall
  refine ⟨pl.toArray, ?_, fun i p hp => by simpa using g2 i p (by simpa using hp)⟩
  rw [Array.mapM_eq_mapM_toList]
  simp only [Sem.run_map, g1, Result.andThen_ok]

theorem maxL_run : ∀ {ds : List D} {vs : List Value} {k : IntKind} {x m : Int}, vs.length = ds.length → (∀ (i : Nat) (v : Value) (d : D), vs[i]? = some v → ds[i]? = some d → Rep φ w v d) → maxL x ds = some m →
    (vs.foldlM Builtin.max2 (.int k x) : Go.Sem Value).run P w = .ok (.int k m) w
  | [], vs, k, x, m, hl, _, hm => by
    obtain rfl := List.eq_nil_of_length_eq_zero hl
    simp only [maxL, Option.some.injEq] at hm; subst hm; rfl
  | d :: ds, vs, k, x, m, hl, hr, hm => by
    obtain ⟨v, vs, rfl⟩ := List.exists_cons_of_length_eq_add_one hl
    cases d <;> simp only [maxL, reduceCtorEq] at hm
    obtain rfl := (hr 0 v _ rfl rfl).int_inv
    simp only [List.foldlM_cons, Builtin.max2, pure_bind]
    exact maxL_run (by simpa using hl) (fun i v d hv hd => hr (i + 1) v d (by simpa using hv) (by simpa using hd)) hm
theorem minL_run : ∀ {ds : List D} {vs : List Value} {k : IntKind} {x m : Int}, vs.length = ds.length → (∀ (i : Nat) (v : Value) (d : D), vs[i]? = some v → ds[i]? = some d → Rep φ w v d) → minL x ds = some m →
    (vs.foldlM Builtin.min2 (.int k x) : Go.Sem Value).run P w = .ok (.int k m) w
  | [], vs, k, x, m, hl, _, hm => by
    obtain rfl := List.eq_nil_of_length_eq_zero hl
    simp only [minL, Option.some.injEq] at hm; subst hm; rfl
  | d :: ds, vs, k, x, m, hl, hr, hm => by
    obtain ⟨v, vs, rfl⟩ := List.exists_cons_of_length_eq_add_one hl
    cases d <;> simp only [minL, reduceCtorEq] at hm
    obtain rfl := (hr 0 v _ rfl rfl).int_inv
    simp only [List.foldlM_cons, Builtin.min2, pure_bind]
    exact minL_run (by simpa using hl) (fun i v d hv hd => hr (i + 1) v d (by simpa using hv) (by simpa using hd)) hm

theorem mapE {x : Operand} {f : Opd → AOp} {r : AOp} (h : (cOpd x).map f = some r) : ∃ y, cOpd x = some y ∧ f y = r := Option.map_eq_some_iff.1 h

theorem okD_rep {ok : Bool} {v : Value} {d : D} {b : Bool} (hr : Rep φ w v d) : Rep φ w (if ok then .tuple #[v, .bool b] else v) (okD ok d b) := by
  cases ok
  · exact hr
  · refine .tup _ _ rfl fun i u e hu he => ?_
    match i with
    | 0 => simp at hu he; subst hu; subst he; exact hr
    | 1 => simp at hu he; subst hu; subst he; exact .bool _
    | i + 2 => simp at hu

theorem Rep.arr {xs : Array Operand} {ds : List D} (h : xs.toList.length = ds.length ∧ ∀ (i : Nat) (v : Value) (d : D), (xs.toList.map a.eval)[i]? = some v → ds[i]? = some d → Rep φ w v d) :
    (xs.map a.eval).size = ds.length ∧ ∀ (i : Nat) (v : Value) (d : D), (xs.map a.eval)[i]? = some v → ds[i]? = some d → Rep φ w v d := by
  refine ⟨by simpa using h.1, fun i v d hv hd => h.2 i v d ?_ hd⟩
  simpa using hv

theorem pure_sim {o : Oper} {x : AOp} (hc : cOp P o.op = some x) (hp : isPure x = true) (hs : step bar T x ρ h = some (d, h')) (he : EnvR φ w a ρ) :
    h' = h ∧ Pure1 φ w ((execOp a.eval o).run P w) d := by
  obtain ⟨dst, op, ty, pos, after, guard⟩ := o
  simp only at hc
  cases op
  case move x1 =>
    obtain ⟨y, hy, rfl⟩ := mapE hc
    simp only [step] at hs
    obtain ⟨e, h1, hs⟩ := bnd_eq hs
    obtain ⟨rfl, rfl⟩ := some_pair hs
    exact ⟨rfl, .mk' (by simp [execOp]) (opd_rep hy h1 he)⟩
  case assign x1 =>
    obtain ⟨y, hy, rfl⟩ := mapE hc
    simp only [step] at hs
    obtain ⟨e, h1, hs⟩ := bnd_eq hs
    obtain ⟨rfl, rfl⟩ := some_pair hs
    exact ⟨rfl, .mk' (by simp [execOp]) (opd_rep hy h1 he)⟩
  case nilCheck x1 =>
    obtain ⟨y, hy, rfl⟩ := mapE hc
    simp only [step] at hs
    obtain ⟨e, h1, hs⟩ := bnd_eq hs
    obtain ⟨r, h2, hs⟩ := bnd_eq hs
    obtain ⟨rfl, rfl⟩ := some_pair hs
    have hr := opd_rep hy h1 he
    refine ⟨rfl, ?_⟩
    unfold nckD at h2
    split at h2 <;> simp only [Option.some.injEq, reduceCtorEq] at h2 <;> subst h2
    · generalize hv : a.eval x1 = v at hr
      cases hr with
      | ptr l i e j r hφ => exact .mk' (v := .pointer _) (by simp [execOp, hv]) (.ptr _ _ _ _ _ hφ)
    · generalize hv : a.eval x1 = v at hr
      have hr' := hr
      cases hr with
      | rptr b o j cs c himm hlv hone hc h => exact .mk' (v := .pointer _) (by simp [execOp, hv]) hr'
    · generalize hv : a.eval x1 = v at hr
      have hr' := hr
      cases hr with
      | fn f fs cs ds es => exact .mk' (v := .func _ _ _) (by simp [execOp, hv]) hr'
  case pick c x1 x2 =>
    simp only [cOp, Option.bind_eq_bind, Option.bind_eq_some_iff, Option.some.injEq] at hc
    obtain ⟨yc, hyc, y1, hy1, y2, hy2, rfl⟩ := hc
    simp only [step] at hs
    obtain ⟨e, h1, hs⟩ := bnd_eq hs
    obtain ⟨t, h2, hs⟩ := bnd_eq hs
    obtain ⟨r, h3, hs⟩ := bnd_eq hs
    obtain ⟨rfl, rfl⟩ := some_pair hs
    have hb := (opd_rep hyc h1 he).asB_inv h2
    refine ⟨rfl, ?_⟩
    cases t
    · exact .mk' (v := a.eval x2) (by simp [execOp, hb, asBool]) (opd_rep hy2 h3 he)
    · exact .mk' (v := a.eval x1) (by simp [execOp, hb, asBool]) (opd_rep hy1 h3 he)
  case fieldAddr s x1 f =>
    simp only [cOp] at hc
    split at hc
    · rename_i fs hu
      split at hc
      · rename_i fd hf
        split at hc
        · rename_i n hn
          split at hc
          · cases hc
          · rename_i hn0
            obtain ⟨y, hy, rfl⟩ := mapE hc
            simp only [step] at hs
            obtain ⟨e, h1, hs⟩ := bnd_eq hs
            obtain ⟨r, h2, hs⟩ := bnd_eq hs
            obtain ⟨rfl, rfl⟩ := some_pair hs
            have hr := opd_rep hy h1 he
            refine ⟨rfl, ?_⟩
            have key : ∀ (b o : Nat), a.eval x1 = .pointer (some ⟨b, o, none⟩) → (execOp a.eval ⟨dst, .fieldAddr s x1 f, ty, pos, after, guard⟩).run P w = .ok (.value (.pointer (some ⟨b, o + fd.offset, none⟩))) w := by
              intro b o hv
              simp [execOp, Instr.fieldAt, underlying, hu, hf, hv, Instr.sureAddr, fieldPlace, sizeT_run hn, hn0, add_at]
            unfold faD at h2
            split at h2 <;> simp only [Option.some.injEq, reduceCtorEq] at h2 <;> subst h2
            · generalize hv : a.eval x1 = v at hr
              cases hr with
              | ptr l i e j r hφ => exact .mk' (key _ _ hv) (by rw [Nat.add_assoc, Nat.add_assoc]; exact .ptr _ _ _ _ _ hφ)
            · generalize hv : a.eval x1 = v at hr
              cases hr with
              | rptr b o j cs c himm hlv hone hc h => exact .mk' (key _ _ hv) (by rw [Nat.add_assoc]; exact .rptr b o _ _ c himm hlv hone hc h)
        · cases hc
      · cases hc
    · cases hc
  case indexAddr t x1 x2 =>
    simp only [cOp] at hc
    split at hc
    · rename_i len e hu
      simp only [Option.bind_eq_bind, Option.bind_eq_some_iff, Option.some.injEq] at hc
      obtain ⟨n, hn, y1, hy1, y2, hy2, rfl⟩ := hc
      simp only [step] at hs
      obtain ⟨e1, h1, hs⟩ := bnd_eq hs
      obtain ⟨e2, h2, hs⟩ := bnd_eq hs
      obtain ⟨i, h3, hs⟩ := bnd_eq hs
      obtain ⟨r, h4, hs⟩ := bnd_eq hs
      obtain ⟨rfl, rfl⟩ := some_pair hs
      have hr := opd_rep hy1 h1 he
      obtain ⟨k, hi, _⟩ := (opd_rep hy2 h2 he).asI_inv h3
      refine ⟨rfl, ?_⟩
      have key : ∀ (b o m : Nat), a.eval x1 = .pointer (some ⟨b, o, none⟩) → inRange i len = some m → (execOp a.eval ⟨dst, .indexAddr t x1 x2, ty, pos, after, guard⟩).run P w = .ok (.value (.pointer (some ⟨b, o + m * n, none⟩))) w := by
        intro b o m hv hm
        obtain ⟨g1, g2, rfl, _⟩ := inRange_eq hm
        simp [execOp, Instr.indexAt, underlying, hu, hi, asIntOf, hv, Instr.sureAddr, sizeT_run hn, g1, g2, add_at]
      unfold iaAD at h4
      split at h4
      · obtain ⟨m, hm, h4⟩ := bnd_eq h4
        simp only [Option.some.injEq] at h4; subst h4
        generalize hv : a.eval x1 = v at hr
        cases hr with
        | ptr l i e j r hφ => exact .mk' (key _ _ _ hv hm) (by rw [Nat.add_assoc, Nat.add_assoc]; exact .ptr _ _ _ _ _ hφ)
      · obtain ⟨m, hm, h4⟩ := bnd_eq h4
        simp only [Option.some.injEq] at h4; subst h4
        generalize hv : a.eval x1 = v at hr
        cases hr with
        | rptr b o j cs c himm hlv hone hc h => exact .mk' (key _ _ _ hv hm) (by rw [Nat.add_assoc]; exact .rptr b o _ _ c himm hlv hone hc h)
      · cases h4
    · rename_i e hu
      simp only [Option.bind_eq_bind, Option.bind_eq_some_iff, Option.some.injEq] at hc
      obtain ⟨n, hn, y1, hy1, y2, hy2, rfl⟩ := hc
      simp only [step] at hs
      obtain ⟨e1, h1, hs⟩ := bnd_eq hs
      obtain ⟨e2, h2, hs⟩ := bnd_eq hs
      obtain ⟨i, h3, hs⟩ := bnd_eq hs
      obtain ⟨r, h4, hs⟩ := bnd_eq hs
      obtain ⟨rfl, rfl⟩ := some_pair hs
      have hr := opd_rep hy1 h1 he
      obtain ⟨k, hi, _⟩ := (opd_rep hy2 h2 he).asI_inv h3
      refine ⟨rfl, ?_⟩
      have key : ∀ (b o len cap m : Nat), a.eval x1 = .slice (some ⟨b, o, none⟩) len cap → inRange i len = some m → (execOp a.eval ⟨dst, .indexAddr t x1 x2, ty, pos, after, guard⟩).run P w = .ok (.value (.pointer (some ⟨b, o + m * n, none⟩))) w := by
        intro b o len cap m hv hm
        obtain ⟨g1, g2, rfl, _⟩ := inRange_eq hm
        simp [execOp, Instr.indexAt, underlying, hu, hi, asIntOf, hv, sizeT_run hn, g1, g2, add_at]
      unfold iaSD at h4
      split at h4
      · rename_i es
        obtain ⟨m, hm, h4⟩ := bnd_eq h4
        obtain ⟨cs, hcs, h4⟩ := bnd_eq h4
        obtain ⟨hz, h4⟩ := brk_none h4
        simp only [beq_iff_eq] at hz
        simp only [Option.some.injEq] at h4; subst h4
        generalize hv : a.eval x1 = v at hr
        cases hr with
        | slE a cap => simp at hcs
        | sl b o len cap sz es c hlen hcap himm hlv hes hone hc2 hrr =>
          have hsz : cs.length = sz := hes cs (List.mem_of_getElem? hcs)
          have hn' : n = sz := by omega
          refine .mk' (key b o len cap m hv (by rw [← hlen]; exact hm)) ?_
          have := Rep.rptr (φ := φ) (w := w) b (o + m * n) 0 cs (fun k => c (m * sz + k)) himm ?_ (hone cs (List.mem_of_getElem? hcs)) ?_ ?_
          · simpa using this
          · exact Nat.le_zero.1 (lvlEs_le.1 (Nat.le_of_eq hlv) cs (List.mem_of_getElem? hcs))
          · intro k d hk
            rw [hn', Nat.add_assoc]; exact hc2 m cs k d hcs hk
          · intro k d hk
            exact hrr m cs k d hcs hk
      · rename_i l k2 off len sz' lim _ _
        obtain ⟨m, hm, h4⟩ := bnd_eq h4
        obtain ⟨hz, h4⟩ := brk_none h4
        simp only [beq_iff_eq] at hz
        simp only [Option.some.injEq] at h4; subst h4
        generalize hv : a.eval x1 = v at hr
        cases hr with
        | own l i off len cap sz lim r ad hφ hsz g1 g2 g3 g4 =>
          have hm2 := (inRange_eq hm).2.2.2
          have hcap : 0 < cap := by omega
          rw [g4 hcap] at hv
          have e : r.base + off * r.size + m * n = r.base + ((off + m) * r.size + 0) := by rw [Nat.add_mul, hsz, hz]; omega
          exact .mk' (key _ _ len cap m hv hm) (by rw [e]; exact .ptr _ _ _ _ r hφ)
      · cases h4
    · cases hc
  case index t x1 x2 =>
    simp only [cOp] at hc
    split at hc
    · rename_i len e hu
      simp only [Option.bind_eq_bind, Option.bind_eq_some_iff, Option.some.injEq] at hc
      obtain ⟨n, hn, sh, hsh, y1, hy1, y2, hy2, rfl⟩ := hc
      simp only [step] at hs
      obtain ⟨e1, h1, hs⟩ := bnd_eq hs
      obtain ⟨cs, h1', hs⟩ := bnd_eq hs
      obtain ⟨e2, h2, hs⟩ := bnd_eq hs
      obtain ⟨i, h3, hs⟩ := bnd_eq hs
      obtain ⟨m, h4, hs⟩ := bnd_eq hs
      obtain ⟨r, h5, hs⟩ := bnd_eq hs
      obtain ⟨rfl, rfl⟩ := some_pair hs
      obtain ⟨k, hi, _⟩ := (opd_rep hy2 h2 he).asI_inv h3
      obtain ⟨vs, hv, hl, h1o, hrr⟩ := (opd_rep hy1 h1 he).asAgg_inv h1'
      obtain ⟨g1, g2, rfl, _⟩ := inRange_eq h4
      obtain ⟨u, hu1, hu2⟩ := part_run (P := P) hsh h5 hl h1o hrr
      exact ⟨rfl, .mk' (v := u) (by simp [execOp, Instr.index, underlying, hu, hi, asIntOf, hv, sizeT_run hn, g1, g2, hu1]) hu2⟩
    · rename_i hu
      simp only [Option.bind_eq_bind, Option.bind_eq_some_iff, Option.some.injEq] at hc
      obtain ⟨y1, hy1, y2, hy2, rfl⟩ := hc
      simp only [step] at hs
      obtain ⟨e1, h1, hs⟩ := bnd_eq hs
      obtain ⟨s, h1', hs⟩ := bnd_eq hs
      obtain ⟨e2, h2, hs⟩ := bnd_eq hs
      obtain ⟨i, h3, hs⟩ := bnd_eq hs
      obtain ⟨m, h4, hs⟩ := bnd_eq hs
      obtain ⟨b, h5, hs⟩ := bnd_eq hs
      obtain ⟨rfl, rfl⟩ := some_pair hs
      obtain ⟨k, hi, _⟩ := (opd_rep hy2 h2 he).asI_inv h3
      have hv := (opd_rep hy1 h1 he).asStr_inv h1'
      obtain ⟨g1, g2, rfl, g4⟩ := inRange_eq h4
      have e3 : (⟨s.toArray⟩ : ByteArray)[i.toNat]? = some b := by
        rw [ByteArray.getElem?_lt' _ _ (by simpa [ByteArray.size] using g4)]
        rw [List.getElem?_eq_getElem g4] at h5
        simp only [Option.some.injEq] at h5 ⊢
        exact h5
      exact ⟨rfl, .mk' (by simp [execOp, Instr.index, underlying, hu, hi, asIntOf, hv, g1, e3]) (.int _ _)⟩
    · cases hc
  case field t x1 f =>
    simp only [cOp] at hc
    split at hc
    · rename_i fs hu
      split at hc
      · rename_i fd hf
        simp only [Option.bind_eq_bind, Option.bind_eq_some_iff, Option.some.injEq] at hc
        obtain ⟨sh, hsh, y1, hy1, rfl⟩ := hc
        simp only [step] at hs
        obtain ⟨e1, h1, hs⟩ := bnd_eq hs
        obtain ⟨cs, h1', hs⟩ := bnd_eq hs
        obtain ⟨r, h5, hs⟩ := bnd_eq hs
        obtain ⟨rfl, rfl⟩ := some_pair hs
        obtain ⟨vs, hv, hl, h1o, hrr⟩ := (opd_rep hy1 h1 he).asAgg_inv h1'
        obtain ⟨u, hu1, hu2⟩ := part_run (P := P) hsh h5 hl h1o hrr
        exact ⟨rfl, .mk' (v := u) (by simp [execOp, Instr.field, underlying, hu, hf, hv, Go.asAgg, hu1]) hu2⟩
      · cases hc
    · cases hc
  case build t ps =>
    have fin : ∀ {zc : List D} {qs : List (Nat × Nat × Opd)} {f place : Nat → Option (Nat × Nat)} {cs : List D}, zeroCellsT P t = some zc → cParts f ps.toList = some qs → (∀ i p, f i = some p → place i = some p) → fills ρ qs zc = some cs →
        ∃ z v, (zeroValue t).run P w = .ok z w ∧ Instr.fill place z.cells (ps.toList.map fun p => (p.1, a.eval p.2)) = some v ∧ Rep φ w (.agg v) (.agg cs) := by
      intro zc qs f place cs hz hq hpf hf
      unfold zeroCellsT at hz
      cases hz1 : zeroT P t with
      | none => simp [hz1] at hz
      | some z =>
        simp only [hz1, Option.map_some, Option.some.injEq] at hz; subst hz
        obtain ⟨v, g1, g2, g3, _⟩ := zeroT_run (φ := φ) (w := w) hz1
        obtain ⟨cs', f1, f2, _⟩ := fills_run hpf hq he hf (g2.rowC g3)
        exact ⟨v, cs', g1, f1, .agg _ _ (by simpa using f2.1) f2.2.1 fun i u e hu he => f2.2.2 i u e (by simpa using hu) he⟩
    simp only [cOp] at hc
    split at hc
    · rename_i fs hu
      split at hc
      · cases hc
      · rename_i hall
        simp only [Bool.not_eq_false] at hall
        simp only [Option.bind_eq_bind, Option.bind_eq_some_iff, Option.some.injEq] at hc
        obtain ⟨zc, hz, qs, hq, rfl⟩ := hc
        simp only [step] at hs
        obtain ⟨cs, h1, hs⟩ := bnd_eq hs
        obtain ⟨rfl, rfl⟩ := some_pair hs
        obtain ⟨pl, p1, p2⟩ := cParts_build (P := P) (w := w) hall
        obtain ⟨z, v, g1, g2, g3⟩ := fin hz hq p2 h1
        refine ⟨rfl, .mk' (v := .agg v) ?_ g3⟩
        simp only [execOp, Instr.build, Sem.run_bind, g1, Result.andThen_ok, underlying_run hu, p1, Sem.run_pure, Array.toList_map, g2]
    · rename_i len e hu
      simp only [Option.bind_eq_bind, Option.bind_eq_some_iff, Option.some.injEq] at hc
      obtain ⟨n, hn, zc, hz, qs, hq, rfl⟩ := hc
      simp only [step] at hs
      obtain ⟨cs, h1, hs⟩ := bnd_eq hs
      obtain ⟨rfl, rfl⟩ := some_pair hs
      obtain ⟨z, v, g1, g2, g3⟩ := fin hz hq (fun i p hp => hp) h1
      refine ⟨rfl, .mk' (v := .agg v) ?_ g3⟩
      simp only [execOp, Instr.build, Sem.run_bind, g1, Result.andThen_ok, underlying_run hu, sizeT_run hn, Sem.run_pure, Array.toList_map, g2]
    · cases hc
  case slice t x1 lo hi mx =>
    simp only [cOp] at hc
    split at hc
    · rename_i hu
      cases mx with
      | some m => cases hc
      | none =>
        simp only [Option.bind_eq_bind, Option.bind_eq_some_iff, Option.some.injEq] at hc
        obtain ⟨y1, hy1, lo', hlo, hi', hhi, rfl⟩ := hc
        simp only [step] at hs
        obtain ⟨e1, h1, hs⟩ := bnd_eq hs
        obtain ⟨s, h1', hs⟩ := bnd_eq hs
        obtain ⟨b, h2, hs⟩ := bnd_eq hs
        obtain ⟨c, h3, hs⟩ := bnd_eq hs
        obtain ⟨rfl, rfl⟩ := some_pair hs
        have hv := (opd_rep hy1 h1 he).asStr_inv h1'
        have hsz : (⟨s.toArray⟩ : ByteArray).size = s.length := by simp [ByteArray.size]
        obtain ⟨g1, g2, g3⟩ := sliceBounds_run (P := P) (isS := false) (len := s.length) (cap := s.length) hlo hhi he (by rcases bound_run hhi he h2 with ⟨_, _, rfl⟩ | ⟨_, _, _, _, _, _, _, rfl⟩ <;> omega) h2 h3
        refine ⟨rfl, .mk' (v := .string ⟨((s.take b).drop c).toArray⟩) ?_ (.str _)⟩
        simp only [execOp, Instr.sliceAt, Sem.run_bind, underlying_run hu, Result.andThen_ok, Instr.slice, hv, hsz, Option.map_none, Option.isSome_none, Bool.false_eq_true, if_false, g1, Sem.run_pure]
        rw [ByteArray.extract_mk, List.drop_take]
    · simp only [Option.bind_eq_bind, Option.bind_eq_some_iff, Option.some.injEq] at hc
      obtain ⟨n, hn, y1, hy1, lo', hlo, hi', hhi, mx', hmx, rfl⟩ := hc
      cases hp
    · cases hc
  case binOp op t x1 x2 yt =>
    have eqc : ∀ {e : EqT} {y1 y2 : Opd} {neg : Bool} (hop : op = if neg then .neq else .eql), eqT P t = some e → cOpd x1 = some y1 → cOpd x2 = some y2 →
        step bar T (.eq neg (isConst x1 || isConst x2) e y1 y2) ρ h = some (d, h') → h' = h ∧ Pure1 φ w ((execOp a.eval ⟨dst, .binOp op t x1 x2 yt, ty, pos, after, guard⟩).run P w) d := by
      intro e y1 y2 neg hop hq hy1 hy2 hs
      simp only [step] at hs
      obtain ⟨e1, h1, hs⟩ := bnd_eq hs
      obtain ⟨e2, h2, hs⟩ := bnd_eq hs
      obtain ⟨r, h3, hs⟩ := bnd_eq hs
      obtain ⟨rfl, rfl⟩ := some_pair hs
      have := eqT_run (ox := x1) (oy := x2) (op := op) (by cases neg <;> simp [hop]) hq (opd_rep hy1 h1 he) (opd_rep hy2 h2 he) h3
      refine ⟨rfl, .mk' (v := .bool (bif neg then !r else r)) ?_ (.bool _)⟩
      simp only [execOp]
      rw [Sem.run_bind, this]
      cases neg <;> simp [hop]
    simp only [cOp] at hc
    have num : ∀ {y1 y2 : Opd}, cOpd x1 = some y1 → cOpd x2 = some y2 → step bar T (.bin op y1 y2) ρ h = some (d, h') → h' = h ∧ Pure1 φ w ((execOp a.eval ⟨dst, .binOp op t x1 x2 yt, ty, pos, after, guard⟩).run P w) d := by
      intro y1 y2 hy1 hy2 hs
      simp only [step] at hs
      obtain ⟨e1, h1, hs⟩ := bnd_eq hs
      obtain ⟨e2, h2, hs⟩ := bnd_eq hs
      obtain ⟨r, h3, hs⟩ := bnd_eq hs
      obtain ⟨rfl, rfl⟩ := some_pair hs
      have r1 := opd_rep hy1 h1 he
      have r2 := opd_rep hy2 h2 he
      obtain ⟨v, g1, g2⟩ := binD_run (P := P) (t := t) r1 r2 h3
      have g3 : (eqGuard op t x1 x2 (a.eval x1) (a.eval x2)).run P w = .ok () w := by
        unfold binD at h3
        split at h3
        · rw [r1.int_inv, r2.int_inv]; cases op <;> rfl
        · rw [r1.str_inv, r2.str_inv]; cases op <;> rfl
        · cases h3
      refine ⟨rfl, .mk' (v := v) ?_ g2⟩
      simp only [execOp, Sem.run_bind, g3, Result.andThen_ok, g1, Sem.run_pure]
    split at hc
    · simp only [Option.bind_eq_bind, Option.bind_eq_some_iff, Option.some.injEq] at hc
      obtain ⟨y1, hy1, y2, hy2, rfl⟩ := hc
      exact num hy1 hy2 hs
    · simp only [Option.bind_eq_bind, Option.bind_eq_some_iff, Option.some.injEq] at hc
      obtain ⟨y1, hy1, y2, hy2, rfl⟩ := hc
      exact num hy1 hy2 hs
    · split at hc
      · simp only [Option.bind_eq_bind, Option.bind_eq_some_iff, Option.some.injEq] at hc
        obtain ⟨e, hq, y1, hy1, y2, hy2, rfl⟩ := hc
        exact eqc (neg := false) rfl hq hy1 hy2 hs
      · simp only [Option.bind_eq_bind, Option.bind_eq_some_iff, Option.some.injEq] at hc
        obtain ⟨e, hq, y1, hy1, y2, hy2, rfl⟩ := hc
        exact eqc (neg := true) rfl hq hy1 hy2 hs
      · cases hc
  case unOp op t x1 =>
    obtain ⟨y, hy, rfl⟩ := mapE hc
    simp only [step] at hs
    obtain ⟨e, h1, hs⟩ := bnd_eq hs
    obtain ⟨r, h2, hs⟩ := bnd_eq hs
    obtain ⟨rfl, rfl⟩ := some_pair hs
    obtain ⟨v, g1, g2⟩ := unD_run (P := P) (opd_rep hy h1 he) h2
    exact ⟨rfl, .mk' (v := v) (by simp [execOp, g1]) g2⟩
  case convert s t x1 =>
    simp only [cOp] at hc
    split at hc
    · rename_i k0 k hu1 hu2
      obtain ⟨y, hy, rfl⟩ := mapE hc
      simp only [step] at hs
      obtain ⟨e, h1, hs⟩ := bnd_eq hs
      obtain ⟨n, h2, hs⟩ := bnd_eq hs
      obtain ⟨rfl, rfl⟩ := some_pair hs
      obtain ⟨k', hv, _⟩ := (opd_rep hy h1 he).asI_inv h2
      exact ⟨rfl, .mk' (v := .int k (k.wrap n)) (by simp [execOp, convert, underlying, hu1, hu2, hv, Conv.intToInt]) (.int _ _)⟩
    · rename_i hu1 hu2
      obtain ⟨y, hy, rfl⟩ := mapE hc
      simp only [step] at hs
      obtain ⟨e, h1, hs⟩ := bnd_eq hs
      obtain ⟨s', h2, hs⟩ := bnd_eq hs
      obtain ⟨rfl, rfl⟩ := some_pair hs
      have hv := (opd_rep hy h1 he).asStr_inv h2
      exact ⟨rfl, .mk' (v := .string ⟨s'.toArray⟩) (by simp [execOp, convert, underlying, hu1, hu2, hv]) (.str _)⟩
    · split at hc
      · obtain ⟨y, hy, rfl⟩ := mapE hc; cases hp
      · cases hc
    · cases hc
  case makeInterface t x1 =>
    simp only [cOp] at hc
    split at hc
    · cases hc
    · rename_i u hnu hu
      obtain ⟨y, hy, rfl⟩ := mapE hc
      simp only [step] at hs
      obtain ⟨e, h1, hs⟩ := bnd_eq hs
      obtain ⟨rfl, rfl⟩ := some_pair hs
      refine ⟨rfl, .mk' (v := .iface t (a.eval x1)) ?_ (.ifc _ _ _ (opd_rep hy h1 he))⟩
      simp only [execOp, Instr.makeInterface, Sem.run_bind, underlying_run hu, Result.andThen_ok]
      cases u <;> first | rfl | (exact absurd rfl (hnu _))
    · cases hc
  case makeFunc f x1 x2 =>
    simp only [cOp, Option.bind_eq_bind, Option.bind_eq_some_iff, Option.some.injEq] at hc
    obtain ⟨y1, hy1, y2, hy2, rfl⟩ := hc
    simp only [step] at hs
    obtain ⟨e1, h1, hs⟩ := bnd_eq hs
    obtain ⟨e2, h2, hs⟩ := bnd_eq hs
    obtain ⟨rfl, rfl⟩ := some_pair hs
    have r1 := Rep.arr (opds_rep hy1 h1 he)
    have r2 := Rep.arr (opds_rep hy2 h2 he)
    exact ⟨rfl, .mk' (v := .func f (x1.map a.eval) (x2.map a.eval)) (by simp [execOp, Instr.makeFunc]) (.fn _ _ _ _ _ r1.1 r2.1 r1.2 r2.2)⟩
  case typeAssert x1 xt t ok =>
    simp only [cOp] at hc
    split at hc
    · cases hc
    · rename_i u hnu hu
      simp only [Option.bind_eq_bind, Option.bind_eq_some_iff, Option.some.injEq] at hc
      obtain ⟨z, hz, y1, hy1, rfl⟩ := hc
      simp only [step] at hs
      obtain ⟨e1, h1, hs⟩ := bnd_eq hs
      obtain ⟨r, h2, hs⟩ := bnd_eq hs
      obtain ⟨rfl, rfl⟩ := some_pair hs
      have hr := opd_rep hy1 h1 he
      obtain ⟨zv, z1, z2, _⟩ := zeroT_run (φ := φ) (w := w) hz
      have zr : Rep φ w (.tuple #[zv, .bool false]) (.tup [z, .bool false]) := by
        have := okD_rep (ok := true) (b := false) z2
        simpa [okD] using this
      refine ⟨rfl, ?_⟩
      generalize hv : a.eval x1 = v at hr
      unfold tasD at h2
      split at h2
      · rename_i t' e'
        cases hr with
        | ifc t' v' d' hr' =>
          rcases brk_eq h2 with ⟨ht, h2⟩ | ⟨ht, h2⟩
          · simp only [beq_iff_eq] at ht
            simp only [Option.some.injEq] at h2; subst h2; subst ht
            refine .mk' (v := if ok then .tuple #[v', .bool true] else v') ?_ (okD_rep hr')
            simp only [execOp, Instr.typeAssert, Sem.run_bind, underlying_run hu, Result.andThen_ok, hv]
            cases u <;> first | (exact absurd rfl (hnu _)) | simp
          · simp only [beq_eq_false_iff_ne] at ht
            obtain ⟨hok, h2⟩ := brk_none h2
            simp only [Option.some.injEq] at h2; subst h2
            refine .mk' (v := .tuple #[zv, .bool false]) ?_ zr
            simp only [execOp, Instr.typeAssert, Sem.run_bind, underlying_run hu, Result.andThen_ok, hv]
            cases u <;> first | (exact absurd rfl (hnu _)) | simp [ht, hok, z1]
      · obtain ⟨hok, h2⟩ := brk_none h2
        simp only [Option.some.injEq] at h2; subst h2
        cases hr
        refine .mk' (v := .tuple #[zv, .bool false]) ?_ zr
        simp only [execOp, Instr.typeAssert, Sem.run_bind, underlying_run hu, Result.andThen_ok, hv]
        cases u <;> first | (exact absurd rfl (hnu _)) | simp [hok, z1]
      · cases h2
    · cases hc
  case extract x1 i =>
    obtain ⟨y, hy, rfl⟩ := mapE hc
    simp only [step] at hs
    obtain ⟨e, h1, hs⟩ := bnd_eq hs
    obtain ⟨r, h2, hs⟩ := bnd_eq hs
    obtain ⟨rfl, rfl⟩ := some_pair hs
    have hr := opd_rep hy h1 he
    unfold extD at h2
    split at h2
    · rename_i ds
      generalize hv : a.eval x1 = v at hr
      cases hr with
      | tup cs ds hl hrr =>
        have hi : i < ds.length := by
          rcases Nat.lt_or_ge i ds.length with h | h
          · exact h
          · rw [List.getElem?_eq_none h] at h2; cases h2
        have hvi : cs[i]? = some (cs[i]'(by omega)) := Array.getElem?_eq_getElem (by omega)
        exact ⟨rfl, .mk' (v := cs[i]'(by omega)) (by simp [execOp, Instr.extract, hv, hvi]) (hrr i _ _ hvi h2)⟩
    · cases h2
  case call c =>
    obtain ⟨callee, args, argTypes⟩ := c
    cases callee with
    | value f =>
      simp only [cOp, Option.bind_eq_bind, Option.bind_eq_some_iff, Option.some.injEq] at hc
      obtain ⟨_, _, _, _, rfl⟩ := hc
      cases hp
    | invoke r m =>
      simp only [cOp, Option.bind_eq_bind, Option.bind_eq_some_iff, Option.some.injEq] at hc
      obtain ⟨_, _, _, _, rfl⟩ := hc
      cases hp
    | builtin b =>
      simp only [cOp] at hc
      split at hc
      · rename_i x1 hargs
        split at hc
        · rename_i ht
          obtain ⟨t, ht1, ht2⟩ := Option.bind_eq_some_iff.1 ht
          obtain ⟨y, hy, rfl⟩ := mapE hc
          simp only [step] at hs
          obtain ⟨e, h1, hs⟩ := bnd_eq hs
          obtain ⟨r, h2, hs⟩ := bnd_eq hs
          obtain ⟨rfl, rfl⟩ := some_pair hs
          have hr := opd_rep hy h1 he
          unfold lenSD at h2
          split at h2
          · rename_i s
            simp only [Option.some.injEq] at h2; subst h2
            have hv := hr.str_inv
            refine ⟨rfl, .mk' (v := .int .i64 s.length) ?_ (.int _ _)⟩
            have harg : args[0]? = some x1 := by rw [← Array.getElem?_toList, hargs]; rfl
            have hsz : (⟨s.toArray⟩ : ByteArray).size = s.length := by simp [ByteArray.size]
            simp only [execOp, resolve, Sem.run_bind, Sem.run_pure, Result.andThen_ok, invoke, builtin, Builtin.len_, ht1, Array.getElem?_map, harg, Option.map_some, underlying_run ht2, hv, hsz, goInt]
          · cases h2
        · rename_i e0 ht
          obtain ⟨t, ht1, ht2⟩ := Option.bind_eq_some_iff.1 ht
          obtain ⟨y, hy, rfl⟩ := mapE hc
          simp only [step] at hs
          obtain ⟨e, h1, hs⟩ := bnd_eq hs
          obtain ⟨r, h2, hs⟩ := bnd_eq hs
          obtain ⟨rfl, rfl⟩ := some_pair hs
          have hr := opd_rep hy h1 he
          have harg : args[0]? = some x1 := by rw [← Array.getElem?_toList, hargs]; rfl
          have key : ∀ (ad : Option Addr) (n cap : Nat), a.eval x1 = .slice ad n cap → (execOp a.eval ⟨dst, .call ⟨.builtin .len, args, argTypes⟩, ty, pos, after, guard⟩).run P w = .ok (.value (.int .i64 n)) w := by
            intro ad n cap hv
            simp [execOp, resolve, invoke, builtin, Builtin.len_, ht1, underlying, ht2, harg, hv, goInt]
          refine ⟨rfl, ?_⟩
          generalize hv : a.eval x1 = v at hr
          unfold lenVD at h2
          split at h2 <;> simp only [Option.some.injEq, reduceCtorEq] at h2 <;> subst h2
          · cases hr with
            | slE ad cap => exact .mk' (key _ _ _ hv) (.int _ _)
            | sl b o len cap sz es c hlen => rw [hlen]; exact .mk' (key _ _ _ hv) (.int _ _)
          · cases hr; exact .mk' (key _ _ _ hv) (.int _ _)
          · cases hr with
            | own l i off len cap sz lim r ad => exact .mk' (key _ _ _ hv) (.int _ _)
        · obtain ⟨y, hy, rfl⟩ := mapE hc; cases hp
        · cases hc
      · split at hc
        · simp only [Option.bind_eq_bind, Option.bind_eq_some_iff] at hc
          obtain ⟨z, _, n, _, b, _, hc⟩ := hc
          split at hc
          · cases hc
          · simp only [Option.bind_eq_some_iff, Option.some.injEq] at hc
            obtain ⟨_, _, _, _, rfl⟩ := hc
            cases hp
        · simp only [Option.bind_eq_bind, Option.bind_eq_some_iff] at hc
          obtain ⟨z, _, n, _, b, _, hc⟩ := hc
          split at hc
          · cases hc
          · simp only [Option.bind_eq_some_iff, Option.some.injEq] at hc
            obtain ⟨_, _, _, _, rfl⟩ := hc
            cases hp
        · cases hc
      · split at hc
        · simp only [Option.bind_eq_bind, Option.bind_eq_some_iff, Option.some.injEq] at hc
          obtain ⟨_, _, _, _, _, _, rfl⟩ := hc
          cases hp
        · cases hc
      · rename_i x1 xs hargs
        simp only [Option.bind_eq_bind, Option.bind_eq_some_iff, Option.some.injEq] at hc
        obtain ⟨y1, hy1, ys, hys, rfl⟩ := hc
        simp only [step] at hs
        obtain ⟨e1, h1, hs⟩ := bnd_eq hs
        obtain ⟨e2, h2, hs⟩ := bnd_eq hs
        obtain ⟨r, h3, hs⟩ := bnd_eq hs
        obtain ⟨rfl, rfl⟩ := some_pair hs
        unfold mxD at h3
        split at h3
        · obtain ⟨m, h4, h3⟩ := bnd_eq h3
          simp only [Option.some.injEq] at h3; subst h3
          have hv := (opd_rep hy1 h1 he).int_inv
          obtain ⟨g1, g2⟩ := opds_rep hys h2 he
          have := fun k => maxL_run (P := P) (w := w) (k := k) (by simpa using g1) g2 h4
          refine ⟨rfl, .mk' ?_ (.int _ m)⟩
          simp only [execOp, resolve, Sem.run_bind, Sem.run_pure, Result.andThen_ok, invoke, builtin, Builtin.max_, Array.toList_map, hargs, List.map_cons, hv, this]
        · cases h3
      · rename_i x1 xs hargs
        simp only [Option.bind_eq_bind, Option.bind_eq_some_iff, Option.some.injEq] at hc
        obtain ⟨y1, hy1, ys, hys, rfl⟩ := hc
        simp only [step] at hs
        obtain ⟨e1, h1, hs⟩ := bnd_eq hs
        obtain ⟨e2, h2, hs⟩ := bnd_eq hs
        obtain ⟨r, h3, hs⟩ := bnd_eq hs
        obtain ⟨rfl, rfl⟩ := some_pair hs
        unfold mnD at h3
        split at h3
        · obtain ⟨m, h4, h3⟩ := bnd_eq h3
          simp only [Option.some.injEq] at h3; subst h3
          have hv := (opd_rep hy1 h1 he).int_inv
          obtain ⟨g1, g2⟩ := opds_rep hys h2 he
          have := fun k => minL_run (P := P) (w := w) (k := k) (by simpa using g1) g2 h4
          refine ⟨rfl, .mk' ?_ (.int _ m)⟩
          simp only [execOp, resolve, Sem.run_bind, Sem.run_pure, Result.andThen_ok, invoke, builtin, Builtin.min_, Array.toList_map, hargs, List.map_cons, hv, this]
        · cases h3
      · cases hc
  case alloc t => obtain ⟨z, _, rfl⟩ := Option.map_eq_some_iff.1 hc; cases hp
  case box t x1 => obtain ⟨y, _, rfl⟩ := mapE hc; cases hp
  case buildSlice t len ps =>
    simp only [cOp] at hc
    split at hc
    · simp only [Option.bind_eq_bind, Option.bind_eq_some_iff] at hc
      obtain ⟨z, _, hc⟩ := hc
      split at hc
      · cases hc
      · simp only [Option.bind_eq_some_iff, Option.some.injEq] at hc
        obtain ⟨_, _, rfl⟩ := hc
        cases hp
    · cases hc
  case load t x1 =>
    simp only [cOp, Option.bind_eq_bind, Option.bind_eq_some_iff, Option.some.injEq] at hc
    obtain ⟨_, _, _, _, rfl⟩ := hc
    cases hp
  case store t x1 x2 =>
    simp only [cOp, Option.bind_eq_bind, Option.bind_eq_some_iff, Option.some.injEq] at hc
    obtain ⟨_, _, _, _, _, _, rfl⟩ := hc
    cases hp
  case makeMap t r =>
    cases r with
    | none => simp only [cOp, Option.some.injEq] at hc; subst hc; cases hp
    | some r => cases hc
  case makeSlice t l c =>
    simp only [cOp] at hc
    split at hc
    · simp only [Option.bind_eq_bind, Option.bind_eq_some_iff] at hc
      obtain ⟨z, _, hc⟩ := hc
      split at hc
      · cases hc
      · simp only [Option.bind_eq_some_iff, Option.some.injEq] at hc
        obtain ⟨_, _, _, _, _, _, rfl⟩ := hc
        cases hp
    · cases hc
  case lookup t m k ok =>
    simp only [cOp] at hc
    split at hc
    · simp only [Option.bind_eq_bind, Option.bind_eq_some_iff, Option.some.injEq] at hc
      obtain ⟨_, _, _, _, _, _, _, _, rfl⟩ := hc
      cases hp
    · cases hc
  case mapUpdate t m k v =>
    simp only [cOp] at hc
    split at hc
    · simp only [Option.bind_eq_bind, Option.bind_eq_some_iff, Option.some.injEq] at hc
      obtain ⟨_, _, _, _, _, _, _, _, rfl⟩ := hc
      cases hp
    · cases hc
  all_goals cases hc
end
end AM
/- The operations that look at memory. -/
namespace AM
open Go

section
variable {φ : Refs} {w : World} {a : Act} {ρ : Env} {P : Program} {bar T : Nat} {h h' : Heap} {d : D}

/-- A variable is loaded out of cells that are told. -/
theorem loadVar_run {t : TypeId} {n : Option Nat} {ds : List D} {j b o : Nat} {d : D} (hsh : shapeT P t = some n) (hp : partD ds j n = some d) (h1 : ∀ d ∈ ds, d.one = true)
    (hr : ∀ (k : Nat) (e : D), ds[k]? = some e → ∃ v, w.cell? ⟨b, o + k, none⟩ = some v ∧ Rep φ w v e) :
    ∃ v, (loadVar t ⟨b, o + j, none⟩).run P w = .ok v w ∧ Rep φ w v d := by
  rcases shapeT_run (w := w) hsh with ⟨m, rfl, ha, hsz⟩ | ⟨rfl, ha, _⟩
  · simp only [partD] at hp
    obtain ⟨hc, hp⟩ := brk_none hp
    simp only [decide_eq_true_eq] at hc
    simp only [Option.some.injEq] at hp; subst hp
    have hall : ∀ k, k < m → ∃ v, w.cell? ⟨b, o + (j + k), none⟩ = some v ∧ ∀ e, ds[j + k]? = some e → Rep φ w v e := by
      intro k hk
      have hlt : j + k < ds.length := by omega
      obtain ⟨v, g1, g2⟩ := hr (j + k) _ (List.getElem?_eq_getElem hlt)
      refine ⟨v, g1, fun e he => ?_⟩
      rw [List.getElem?_eq_getElem hlt] at he
      simp only [Option.some.injEq] at he; subst he; exact g2
    let f : Nat → Value := fun k => (w.cell? ⟨b, o + (j + k), none⟩).getD undef
    have hf : ∀ k, k < m → w.cell? ((⟨b, o + j, none⟩ : Addr).add k) = some (f k) := by
      intro k hk
      obtain ⟨v, g1, _⟩ := hall k hk
      rw [add_at, Nat.add_assoc]
      simp [f, g1]
    refine ⟨.agg ((List.range m).map f).toArray, by simp [loadVar, ha, hsz, run_loadCells w _ m f hf], ?_⟩
    refine .agg _ _ (by simp; omega) (fun d hd => h1 d (List.mem_of_mem_drop (List.mem_of_mem_take hd))) fun i v e hv he => ?_
    rw [List.getElem?_take] at he
    split at he
    · rename_i hi
      rw [List.getElem?_drop] at he
      obtain ⟨u, g1, g2⟩ := hall i hi
      have : v = u := by simp [hi, f, g1] at hv; exact hv.symm
      subst this; exact g2 e he
    · cases he
  · simp only [partD] at hp
    obtain ⟨v, g1, g2⟩ := hr j d hp
    exact ⟨v, by simp [loadVar, ha, g1], g2⟩

/-- The cells of an object. -/
theorem obj_cells {C : Cont} {l i e : Nat} {r : Ref} {es : List (List D)} {cs : List D} (hi : Inv φ w T C) (hφ : φ l i = some r) (hC : C l i = some (.arr es)) (he : es[e]? = some cs) :
    (∀ d ∈ cs, d.one = true) ∧ cs.length = r.size ∧ ∀ (k : Nat) (d : D), cs[k]? = some d → ∃ v, w.cell? ⟨r.blk, r.base + (e * r.size + k), none⟩ = some v ∧ Rep φ w v d := by
  obtain ⟨c, ty, g1, g2, g3, g4, g5, g6, g7⟩ := hi.obj l i r _ hφ hC
  refine ⟨g6 cs (List.mem_of_getElem? he), g5 cs (List.mem_of_getElem? he), fun k d hk => ?_⟩
  obtain ⟨v, f1, f2⟩ := g7 e cs k d he hk
  exact ⟨v, by rw [cell_of_row w _ _ c ty (0, 0) g1]; exact f1, f2⟩

theorem asArr_eq {o : Obj} {es : List (List D)} (h : asArr o = some es) : o = .arr es := by cases o <;> simp [asArr] at h; rw [h]
theorem asMap_eq {o : Obj} {es : List (D × D)} (h : asMap o = some es) : o = .map es := by cases o <;> simp [asMap] at h; rw [h]

/-- Loading through an address. -/
theorem ld_run {t : TypeId} {n : Option Nat} {p d : D} {u : Value} (hsh : shapeT P t = some n) (hi : Inv φ w T (getO T h)) (hu : Rep φ w u p) (hl : ldD T h n p = some d) :
    ∃ v, (Instr.loadAt t u).run P w = .ok v w ∧ Rep φ w v d := by
  unfold ldD at hl
  split at hl
  · rename_i l i e j
    obtain ⟨o, h1, hl1⟩ := bnd_eq hl
    obtain ⟨es, h2, hl2⟩ := bnd_eq hl1
    obtain ⟨cs, h3, hl3⟩ := bnd_eq hl2
    have := asArr_eq h2; subst this
    cases hu with
    | ptr l i e j r hφ =>
      obtain ⟨g1, _, g3⟩ := obj_cells hi hφ h1 h3
      obtain ⟨v, f1, f2⟩ := loadVar_run (φ := φ) (w := w) (b := r.blk) (o := r.base + e * r.size) hsh hl3 g1 (fun k d hk => by rw [Nat.add_assoc]; exact g3 k d hk)
      exact ⟨v, by simp only [Instr.loadAt, Instr.sureAddr, pure_bind, ← Nat.add_assoc]; exact f1, f2⟩
  · rename_i cs j
    cases hu with
    | rptr b o j cs c himm hlv hone hc hrr =>
      obtain ⟨v, f1, f2⟩ := loadVar_run (φ := φ) (w := w) (b := b) (o := o) hsh hl hone (fun k d hk => ⟨c k, hc k d hk, hrr k d hk⟩)
      exact ⟨v, by simp only [Instr.loadAt, Instr.sureAddr, pure_bind]; exact f1, f2⟩
  · cases hl

/-- The elements of a slice, as cells. -/
theorem elems_cells {y : D} {u : Value} {es : List (List D)} (hi : Inv φ w T (getO T h)) (hu : Rep φ w u y) (he : elems T h y = some es) :
    (es = [] ∧ ((∃ ad cap, u = .slice ad 0 cap) )) ∨ ∃ b o len cap sz, u = .slice (some ⟨b, o, none⟩) len cap ∧ len = es.length ∧ len ≤ cap ∧ (∀ cs ∈ es, cs.length = sz) ∧ (∀ cs ∈ es, ∀ d ∈ cs, d.one = true) ∧
      ∀ (e : Nat) (cs : List D) (j : Nat) (d : D), es[e]? = some cs → cs[j]? = some d → ∃ v, w.cell? ⟨b, o + (e * sz + j), none⟩ = some v ∧ Rep φ w v d := by
  unfold elems at he
  split at he
  · simp only [Option.some.injEq] at he; subst he
    cases hu
    exact .inl ⟨rfl, _, _, rfl⟩
  · simp only [Option.some.injEq] at he; subst he
    cases hu with
    | slE a cap => exact .inl ⟨rfl, _, _, rfl⟩
    | sl b o len cap sz es c hlen hcap himm hlv hes hone hc hrr =>
      exact .inr ⟨b, o, len, cap, sz, rfl, hlen.symm, hcap, hes, hone, fun e cs j d h1 h2 => ⟨_, hc e cs j d h1 h2, hrr e cs j d h1 h2⟩⟩
  · rename_i l i off len sz' lim
    obtain ⟨ob, h1, he⟩ := bnd_eq he
    obtain ⟨es0, h2, he⟩ := bnd_eq he
    obtain ⟨hle, he⟩ := brk_none he
    simp only [decide_eq_true_eq] at hle
    simp only [Option.some.injEq] at he; subst he
    have := asArr_eq h2; subst this
    cases hu with
    | own l i off len cap sz lim r ad hφ hsz g1 g2 g3 g4 =>
      rcases Nat.eq_zero_or_pos len with hz | hz
      · subst hz
        exact .inl ⟨by simp, _, _, rfl⟩
      · have had := g4 (by omega)
        subst had
        refine .inr ⟨r.blk, r.base + off * r.size, len, cap, r.size, rfl, by simp; omega, g3, ?_, ?_, ?_⟩
        · intro cs hcs
          have hm : cs ∈ es0 := List.mem_of_mem_drop (List.mem_of_mem_take hcs)
          obtain ⟨e, he⟩ := List.mem_iff_getElem?.1 hm
          exact (obj_cells hi hφ h1 he).2.1
        · intro cs hcs
          have hm : cs ∈ es0 := List.mem_of_mem_drop (List.mem_of_mem_take hcs)
          obtain ⟨e, he⟩ := List.mem_iff_getElem?.1 hm
          exact (obj_cells hi hφ h1 he).1
        · intro e cs j d hcs hd
          rw [List.getElem?_take] at hcs
          split at hcs
          · rw [List.getElem?_drop] at hcs
            obtain ⟨v, f1, f2⟩ := (obj_cells hi hφ h1 hcs).2.2 j d hd
            refine ⟨v, ?_, f2⟩
            rw [← f1]; congr 2; rw [Nat.add_mul]; omega
          · cases hcs
  · cases he

/-! maps -/
theorem okK_row {t : TypeId} {k : KT} {x y : D} {u v : Value} {r : Bool} (hk : keyT P t = some k) (hu : Rep φ w u x) (hv : Rep φ w v y) (h : eqK k x y = some r) :
    ∀ m, 20 ≤ m → (Op.equalIn m t u v).run P w = .ok r w := by
  intro m hm
  unfold keyT at hk
  split at hk
  · rename_i fs hu'
    cases hrow : rowT P 20 t with
    | none => simp [hrow] at hk
    | some ks =>
      simp only [hrow, Option.map_some, Option.some.injEq] at hk; subst hk
      have hag : (isAgg t).run P w = .ok true w := by simp [isAgg, underlying, hu']
      unfold eqK at h
      split at h
      · rename_i hq; cases hq
      · rename_i ks' xs ys hq
        cases hq
        obtain ⟨hl, h⟩ := brk_none h
        simp only [decide_eq_true_eq] at hl
        exact equal_row 20 t ks m u v _ _ r hrow hm hl.1 hl.2 (row_of_agg hrow hag hu) (row_of_agg hrow hag hv) h
      · cases h
  · rename_i n e hu'
    cases hrow : rowT P 20 t with
    | none => simp [hrow] at hk
    | some ks =>
      simp only [hrow, Option.map_some, Option.some.injEq] at hk; subst hk
      have hag : (isAgg t).run P w = .ok true w := by simp [isAgg, underlying, hu']
      unfold eqK at h
      split at h
      · rename_i hq; cases hq
      · rename_i ks' xs ys hq
        cases hq
        obtain ⟨hl, h⟩ := brk_none h
        simp only [decide_eq_true_eq] at hl
        exact equal_row 20 t ks m u v _ _ r hrow hm hl.1 hl.2 (row_of_agg hrow hag hu) (row_of_agg hrow hag hv) h
      · cases h
  · cases hs : skT P t with
    | none => simp [hs] at hk
    | some k' =>
      simp only [hs, Option.map_some, Option.some.injEq] at hk; subst hk
      obtain ⟨m, rfl⟩ : ∃ j, m = j + 1 := ⟨m - 1, by omega⟩
      exact eqSK_run m hs hu hv h

/-- The parts of a struct that is compared, one by one. -/
theorem checkKey_row : ∀ (n : Nat) (t : TypeId) (ks : List SK) (d : Nat) (emp : Bool) (u : Value) (xs : List D) (r : Bool), rowT P n t = some ks → n ≤ d →
    xs.length = ks.length → RowR φ w P t u xs → eqL ks xs xs = some r → (Instr.checkKey emp d t u).run P w = .ok () w ∧ r = true
  | 0, _, _, _, _, _, _, _, h, _, _, _, _ => by cases h
  | n + 1, t, ks, d, emp, u, xs, r, h, hd, hx, hu, he => by
    obtain ⟨d, rfl⟩ : ∃ m, d = m + 1 := ⟨d - 1, by omega⟩
    simp only [rowT] at h
    split at h
    · rename_i fs htu
      split at h
      · cases h
      · have ha : (isAgg t).run P w = .ok true w := by simp [isAgg, underlying, htu]
        rcases hu with ⟨_, cs1, rfl, hl1, hc1⟩ | ⟨h1, _⟩
        · have key : ∀ (l : List Field) (off : Nat) (ks : List SK), rowFs P (rowT P n) l off = some ks → off + ks.length = xs.length →
              ∀ r, eqL ks (xs.drop off) (xs.drop off) = some r → ((forIn l () fun f (_ : Unit) => do
                if f.name ≠ "_" then do
                  Instr.checkKey emp d f.type (← part f.type cs1 f.offset)
                  pure (ForInStep.yield ())
                else pure (ForInStep.yield ())) : Go.Sem Unit).run P w = .ok () w ∧ r = true := by
            intro l
            induction l with
            | nil =>
              intro off ks h h1 r he
              simp only [rowFs, Option.some.injEq] at h; subst h
              rw [List.drop_of_length_le (by simp at h1; omega)] at he
              simp only [eqL, Option.some.injEq] at he; subst he
              simp
            | cons f l ih =>
              intro off ks h h1 r he
              simp only [rowFs] at h
              split at h
              · rename_i hcond
                obtain ⟨hn1, hn2⟩ := hcond
                split at h
                · rename_i kf hkf
                  split at h
                  · rename_i m rs hm hrs
                    split at h
                    · rename_i hmk
                      simp only [Option.some.injEq] at h; subst h
                      simp only [List.length_append] at h1
                      rw [eqL_split hmk (by simp; omega) (by simp; omega)] at he
                      obtain ⟨q, hq, he⟩ := bnd_eq he
                      obtain ⟨a, ha1, ha2⟩ := rowR_part (φ := φ) (w := w) (off := off) hkf hm hmk hl1 hc1 (by omega)
                      obtain ⟨e1, rfl⟩ := checkKey_row n f.type kf d emp a _ q hkf (by omega) (by simp; omega) ha2 hq
                      have hname : f.name ≠ "_" := by simpa using hn1
                      simp only [brk_true] at he
                      obtain ⟨e2, e3⟩ := ih (off + kf.length) rs (by rw [← hmk] at hrs; rw [← hmk]; exact hrs) (by omega) r (by simpa [List.drop_drop, hmk] using he)
                      refine ⟨?_, e3⟩
                      simp only [List.forIn_cons, if_pos hname, hn2, Sem.run_bind, ha1, Result.andThen_ok, e1, Sem.run_pure]
                      exact e2
                    · cases h
                  · cases h
                · cases h
              · cases h
          obtain ⟨g1, g2⟩ := key fs.toList 0 ks h (by omega) r (by simpa using he)
          refine ⟨?_, g2⟩
          simp only [Instr.checkKey, Sem.run_bind, underlying_run htu, Result.andThen_ok]
          rw [← Array.forIn_toList]
          simp only [Array.forIn_toList] at g1 ⊢
          exact (congrArg (fun (r : Result Unit) => Result.andThen r (fun _ w' => Result.ok () w')) g1).trans rfl
        · rw [ha] at h1; cases h1
    · rename_i len e htu
      split at h
      · rename_i ke s hke hs
        split at h
        · rename_i hsk
          simp only [Option.some.injEq] at h; subst h
          have ha : (isAgg t).run P w = .ok true w := by simp [isAgg, underlying, htu]
          rcases hu with ⟨_, cs1, rfl, hl1, hc1⟩ | ⟨h1, _⟩
          · rw [rowAs_length] at hx
            have key : ∀ (m i : Nat), i + m = len → ∀ r, eqL (rowAs ke m) (xs.drop (i * s)) (xs.drop (i * s)) = some r → ((forIn (List.range' i m) () fun i (_ : Unit) => do
                let n ← Go.sizeOf e
                Instr.checkKey emp d e (← part e cs1 (i * n))
                pure (ForInStep.yield ())) : Go.Sem Unit).run P w = .ok () w ∧ r = true := by
              intro m
              induction m with
              | zero =>
                intro i hi r he
                have : i * s = len * ke.length := by rw [← hsk, show i = len by omega]
                rw [List.drop_of_length_le (by omega)] at he
                simp only [rowAs, eqL, Option.some.injEq] at he; subst he
                simp
              | succ m ih =>
                intro i hi r he
                have hle : i * s + s + m * s = len * s := by rw [← hi, Nat.add_mul, Nat.add_mul, Nat.one_mul]; omega
                simp only [rowAs] at he
                rw [← hsk] at hx
                rw [eqL_split hsk (by rw [rowAs_length, ← hsk, List.length_drop]; omega) (by rw [rowAs_length, ← hsk, List.length_drop]; omega)] at he
                obtain ⟨q, hq, he⟩ := bnd_eq he
                obtain ⟨a, ha1, ha2⟩ := rowR_part (φ := φ) (w := w) (off := i * s) hke hs hsk hl1 hc1 (by omega)
                obtain ⟨e1, rfl⟩ := checkKey_row n e ke d emp a _ q hke (by omega) (by simp; omega) ha2 hq
                simp only [brk_true] at he
                obtain ⟨e2, e3⟩ := ih (i + 1) (by omega) r (by simpa [List.drop_drop, Nat.add_mul] using he)
                refine ⟨?_, e3⟩
                simp only [List.range'_succ, List.forIn_cons, Sem.run_bind, sizeT_run hs, ha1, Result.andThen_ok, e1, Sem.run_pure]
                exact e2
            obtain ⟨g1, g2⟩ := key len 0 (by omega) r (by simpa using he)
            refine ⟨?_, g2⟩
            simp only [Instr.checkKey, Sem.run_bind, underlying_run htu, Result.andThen_ok]
            simp only [Std.Legacy.Range.forIn_eq_forIn_range', Std.Legacy.Range.size, Nat.sub_zero, Nat.add_sub_cancel, Nat.div_one]
            exact (congrArg (fun (r : Result Unit) => Result.andThen r (fun _ w' => Result.ok () w')) g1).trans rfl
          · rw [ha] at h1; cases h1
        · cases h
      · cases h
    · rename_i n1 n2
      cases hk : skT P t with
      | none => simp [hk] at h
      | some k =>
        simp only [hk, Option.map_some, Option.some.injEq] at h; subst h
        have ha : (isAgg t).run P w = .ok false w := by rcases skT_eq hk with ⟨_, hu⟩ | ⟨_, i, hu⟩ | ⟨_, hu⟩ <;> simp [isAgg, underlying, hu]
        rcases hu with ⟨h1, _⟩ | ⟨_, x, rfl, hxr⟩
        · rw [ha] at h1; cases h1
        · simp only [eqL] at he
          obtain ⟨q, hq, he⟩ := bnd_eq he
          have : q = r := by cases q <;> simpa using he
          subst this
          have hqt : q = true := by
            unfold eqSK at hq
            split at hq
            · simp at hq; exact hq
            · obtain ⟨_, hq⟩ := brk_none hq; simp at hq; exact hq
            · simp at hq; exact hq
            · cases hq
          refine ⟨?_, hqt⟩
          rcases skT_eq hk with ⟨_, hu⟩ | ⟨_, i, hu⟩ | ⟨_, hu⟩ <;> simp [Instr.checkKey, underlying, hu]
end
end AM
/- The operations that look at memory, all together. -/
namespace AM
open Go

section
variable {φ : Refs} {w : World} {a : Act} {ρ : Env} {P : Program} {bar T : Nat} {h h' : Heap} {d : D}

theorem checkKey_run {t : TypeId} {k : KT} {x : D} {u : Value} (emp : Bool) (hk : keyT P t = some k) (hu : Rep φ w u x) (h : okK k x = true) : (Instr.checkKey emp 10000 t u).run P w = .ok () w := by
  have hn : ∃ n, n = 10000 ∧ 20 ≤ n := ⟨10000, rfl, by omega⟩
  obtain ⟨n, hn1, hn2⟩ := hn
  rw [← hn1]
  clear hn1
  unfold okK at h
  obtain ⟨r, h⟩ := Option.isSome_iff_exists.1 h
  unfold keyT at hk
  have row : ∀ {ks : List SK}, (isAgg t).run P w = .ok true w → rowT P 20 t = some ks → eqK (.row ks) x x = some r → (Instr.checkKey emp n t u).run P w = .ok () w := by
    intro ks hag hrow h
    cases x <;> simp only [eqK, reduceCtorEq] at h
    obtain ⟨hl, h2⟩ := brk_none h
    simp only [decide_eq_true_eq] at hl
    exact (checkKey_row 20 t ks n emp u _ r hrow hn2 hl.1 (row_of_agg hrow hag hu) h2).1
  split at hk
  · rename_i fs hu'
    cases hrow : rowT P 20 t with
    | none => simp [hrow] at hk
    | some ks =>
      simp only [hrow, Option.map_some, Option.some.injEq] at hk; subst hk
      exact row (by simp [isAgg, underlying, hu']) hrow h
  · rename_i m e hu'
    cases hrow : rowT P 20 t with
    | none => simp [hrow] at hk
    | some ks =>
      simp only [hrow, Option.map_some, Option.some.injEq] at hk; subst hk
      exact row (by simp [isAgg, underlying, hu']) hrow h
  · cases hs : skT P t with
    | none => simp [hs] at hk
    | some k' =>
      obtain ⟨m, rfl⟩ : ∃ j, n = j + 1 := ⟨n - 1, by omega⟩
      rcases skT_eq hs with ⟨_, hu⟩ | ⟨_, i, hu⟩ | ⟨_, hu⟩ <;> simp [Instr.checkKey, underlying, hu]

/-- Entries of a map read as the abstract ones. -/
def EntR (φ : Refs) (w : World) (ents : List MapEntry) (es : List (D × D)) : Prop :=
  ents.length = es.length ∧ ∀ (i : Nat) (e : MapEntry) (p : D × D), ents[i]? = some e → es[i]? = some p → Rep φ w e.key p.1 ∧ Rep φ w e.val p.2

theorem EntR.tail {e : MapEntry} {p : D × D} {ents : List MapEntry} {es : List (D × D)} (h : EntR φ w (e :: ents) (p :: es)) : EntR φ w ents es ∧ Rep φ w e.key p.1 ∧ Rep φ w e.val p.2 :=
  ⟨⟨by simpa using h.1, fun i e p he hp => h.2 (i + 1) e p (by simpa using he) (by simpa using hp)⟩, h.2 0 e p rfl rfl⟩

/-- What is found: the place, and the entry's value. -/
def FoundR (φ : Refs) (w : World) : Option (Nat × Value) → Option (Nat × D) → Prop
  | none, none => True
  | some (i, v), some (j, d) => i = j ∧ Rep φ w v d
  | _, _ => False

theorem sameNow_eq {t : TypeId} {k : SK} {u : TypeDesc} {x y : D} {vx vy : Value} {r : Bool} (hk : skT P t = some k) (ht : P.underlying t = some u) (hx : Rep φ w vx x) (hy : Rep φ w vy y) (h : eqSK k x y = some r) : Instr.sameNow u vx vy = some r := by
  rcases skT_eq hk with ⟨rfl, hu⟩ | ⟨rfl, i, hu⟩ | ⟨rfl, hu⟩ <;> rw [ht] at hu <;> cases hu <;> cases x <;> cases y <;> simp only [eqSK, reduceCtorEq] at h
  · obtain rfl := hx.bool_inv; obtain rfl := hy.bool_inv
    rename_i b c
    simp only [Option.some.injEq] at h; subst h
    cases b <;> cases c <;> rfl
  · obtain rfl := hx.int_inv; obtain rfl := hy.int_inv
    obtain ⟨hq, h2⟩ := brk_none h
    simp only [decide_eq_true_eq] at hq; subst hq
    simp only [Option.some.injEq] at h2; subst h2
    simp only [Instr.sameNow, if_true]
    rfl
  · obtain rfl := hx.str_inv; obtain rfl := hy.str_inv
    simp only [Option.some.injEq] at h; subst h
    simp only [Instr.sameNow, beq_toListBytes, ByteArray.toList_mk, beqL]

theorem findNow_eq {t : TypeId} {k : SK} {u : TypeDesc} {x : D} {vx : Value} (hk : skT P t = some k) (ht : P.underlying t = some u) (hx : Rep φ w vx x) :
    ∀ (ents : List MapEntry) (es : List (D × D)) (i : Nat) (r : Option (Nat × D)), EntR φ w ents es → findK (.one k) x es i = some r → ∃ q, Instr.findNow u vx ents i = some q ∧ FoundR φ w q r
  | [], es, i, r, he, hf => by
    obtain rfl := List.eq_nil_of_length_eq_zero he.1.symm
    simp only [findK, Option.some.injEq] at hf; subst hf
    exact ⟨none, rfl, trivial⟩
  | e :: ents, es, i, r, he, hf => by
    obtain ⟨p, es, rfl⟩ := List.exists_cons_of_length_eq_add_one he.1.symm
    obtain ⟨he', hk1, hv1⟩ := he.tail
    obtain ⟨pk, pv⟩ := p
    simp only [findK] at hf
    obtain ⟨b, hb, hf⟩ := bnd_eq hf
    have hs := sameNow_eq (P := P) hk ht hx hk1 (show eqSK k x pk = some b from hb)
    simp only [Instr.findNow, hs]
    cases b
    · simp only [brk_false] at hf
      exact findNow_eq hk ht hx ents es (i + 1) r he' hf
    · simp only [brk_true, Option.some.injEq] at hf; subst hf
      exact ⟨_, rfl, rfl, hv1⟩

theorem findAsking_eq {t : TypeId} {k : KT} {x : D} {vx : Value} (hk : keyT P t = some k) (hx : Rep φ w vx x) :
    ∀ (ents : List MapEntry) (es : List (D × D)) (i : Nat) (r : Option (Nat × D)), EntR φ w ents es → findK k x es i = some r → ∃ q, (Instr.findAsking t vx ents i).run P w = .ok q w ∧ FoundR φ w q r
  | [], es, i, r, he, hf => by
    obtain rfl := List.eq_nil_of_length_eq_zero he.1.symm
    simp only [findK, Option.some.injEq] at hf; subst hf
    exact ⟨none, rfl, trivial⟩
  | e :: ents, es, i, r, he, hf => by
    obtain ⟨p, es, rfl⟩ := List.exists_cons_of_length_eq_add_one he.1.symm
    obtain ⟨he', hk1, hv1⟩ := he.tail
    obtain ⟨pk, pv⟩ := p
    simp only [findK] at hf
    obtain ⟨b, hb, hf⟩ := bnd_eq hf
    have hq : ∃ n, 20 ≤ n ∧ Op.equal t vx e.key = Op.equalIn n t vx e.key := ⟨Op.maxDepth, by unfold Op.maxDepth; omega, rfl⟩
    obtain ⟨n, hn, hq⟩ := hq
    have hs := okK_row (P := P) hk hx hk1 hb n hn
    simp only [Instr.findAsking, Sem.run_bind, hq, hs, Result.andThen_ok]
    cases b
    · simp only [brk_false] at hf
      simp only [Bool.false_eq_true, if_false]
      exact findAsking_eq hk hx ents es (i + 1) r he' hf
    · simp only [brk_true, Option.some.injEq] at hf; subst hf
      exact ⟨_, rfl, rfl, hv1⟩

theorem findKey_run {t : TypeId} {k : KT} {x : D} {vx : Value} {ents : List MapEntry} {es : List (D × D)} {r : Option (Nat × D)} (hk : keyT P t = some k) (hx : Rep φ w vx x) (he : EntR φ w ents es) (hf : findK k x es 0 = some r) :
    ∃ q, (Instr.findKey t vx ents).run P w = .ok q w ∧ FoundR φ w q r := by
  have hask := findAsking_eq (P := P) hk hx ents es 0 r he hf
  have hu : ∃ u, P.underlying t = some u := by
    unfold keyT at hk
    split at hk
    · exact ⟨_, by assumption⟩
    · exact ⟨_, by assumption⟩
    · unfold skT at hk
      cases hq : P.underlying t with
      | none => simp [hq] at hk
      | some u => exact ⟨u, rfl⟩
  obtain ⟨u, hu⟩ := hu
  simp only [Instr.findKey, Sem.run_bind, underlying_run hu, Result.andThen_ok]
  by_cases h1 : ∃ k', skT P t = some k' ∧ k = .one k'
  · obtain ⟨k', h2, rfl⟩ := h1
    obtain ⟨q, g1, g2⟩ := findNow_eq (P := P) h2 hu hx ents es 0 r he hf
    exact ⟨q, by simp [g1], g2⟩
  · cases hq : Instr.findNow u vx ents 0 with
    | none => exact hask
    | some q =>
      -- only an empty map answers at once at such a key
      have hrow : ∃ ks, k = .row ks ∧ ((∃ fs, u = .struct fs) ∨ ∃ n e, u = .array n e) := by
        unfold keyT at hk
        split at hk
        · rename_i fs h3
          rw [hu] at h3; cases h3
          obtain ⟨ks, _, rfl⟩ := Option.map_eq_some_iff.1 hk
          exact ⟨ks, rfl, .inl ⟨_, rfl⟩⟩
        · rename_i n e h3
          rw [hu] at h3; cases h3
          obtain ⟨ks, _, rfl⟩ := Option.map_eq_some_iff.1 hk
          exact ⟨ks, rfl, .inr ⟨_, _, rfl⟩⟩
        · obtain ⟨k', h3, rfl⟩ := Option.map_eq_some_iff.1 hk
          exact absurd ⟨k', h3, rfl⟩ h1
      obtain ⟨ks, rfl, hsh⟩ := hrow
      cases ents with
      | nil =>
        obtain rfl := List.eq_nil_of_length_eq_zero he.1.symm
        simp only [findK, Option.some.injEq] at hf; subst hf
        simp only [Instr.findNow, Option.some.injEq] at hq; subst hq
        exact ⟨none, rfl, trivial⟩
      | cons e ents =>
        exfalso
        simp only [Instr.findNow] at hq
        have : Instr.sameNow u vx e.key = none := by rcases hsh with ⟨fs, rfl⟩ | ⟨n, e', rfl⟩ <;> rfl
        simp [this] at hq

theorem map_ents {C : Cont} {l i : Nat} {r : Ref} {es : List (D × D)} (hi : Inv φ w T C) (hφ : φ l i = some r) (hC : C l i = some (.map es)) :
    ∃ ents clock, w.heap[r.blk]? = some (.map ents clock) ∧ EntR φ w ents.toList es := by
  obtain ⟨ents, clock, g1, g2, _, g4⟩ := hi.obj l i r _ hφ hC
  exact ⟨ents, clock, g1, by simpa using g2, fun i e p he hp => g4 i e p (by simpa using he) hp⟩

theorem getObj_run {b : Nat} {o : Go.Obj} (hb : w.heap[b]? = some o) (hc : ∀ c t f, o ≠ .cells c t f) : (getObj b).run P w = .ok o w := by
  unfold getObj
  cases o <;> first | (simp only [Sem.run, hb]; done) | (exact absurd rfl (hc _ _ _))

theorem asChars_eq : ∀ {es : List (List D)} {s : List UInt8}, asChars es = some s → es.length = s.length ∧ ∀ (i : Nat) (cs : List D), es[i]? = some cs → ∃ n, cs = [.int .u8 n] ∧ s[i]? = some (UInt8.ofNat n.toNat)
  | [], s, h => by simp only [asChars, Option.some.injEq] at h; subst h; simp
  | cs :: r, s, h => by
    unfold asChars at h
    split at h
    · rename_i hq; cases hq
    · rename_i n r' hq
      cases hq
      obtain ⟨s', h1, h⟩ := bnd_eq h
      simp only [Option.some.injEq] at h; subst h
      obtain ⟨g1, g2⟩ := asChars_eq h1
      refine ⟨by simp [g1], fun i cs h => ?_⟩
      cases i with
      | zero => simp at h; subst h; exact ⟨n, rfl, rfl⟩
      | succ i => simpa using g2 i cs (by simpa using h)
    · cases h

theorem bytesLoop : ∀ (l : List Value) (s : List UInt8) (acc : ByteArray), l.length = s.length → (∀ (i : Nat) (v : Value), l[i]? = some v → ∃ n : Int, v = .int .u8 n ∧ s[i]? = some (UInt8.ofNat n.toNat)) →
    ((forIn l acc fun c s => do
      match c with
      | .int .u8 n => pure (ForInStep.yield (s.push (UInt8.ofNat n.toNat)))
      | _ => do
        stuck "bytesToString: byte expected"
        pure (ForInStep.yield s)) : Go.Sem ByteArray).run P w = .ok ⟨acc.data ++ s.toArray⟩ w
  | [], s, acc, hl, _ => by
    obtain rfl := List.eq_nil_of_length_eq_zero hl.symm
    simp
  | v :: l, s, acc, hl, h => by
    obtain ⟨b, s, rfl⟩ := List.exists_cons_of_length_eq_add_one hl.symm
    obtain ⟨n, rfl, hn⟩ := h 0 v rfl
    simp only [List.getElem?_cons_zero, Option.some.injEq] at hn
    have ih := bytesLoop l s (acc.push (UInt8.ofNat n.toNat)) (by simpa using hl) (fun i v hv => by simpa using h (i + 1) v (by simpa using hv))
    simp only [List.forIn_cons, Sem.run_bind, Sem.run_pure, Result.andThen_ok]
    refine Eq.trans ih ?_
    rw [hn]
    congr 2
    simp [ByteArray.push]
end
end AM
/- The operations that are more than a computation: what they were translated from. And those that look at memory. -/
namespace AM
open Go

def isRead : AOp → Bool
  | .ld .. | .slV .. | .look .. | .lenM .. | .cvBS .. => true
  | _ => false

/-- What an operation that is no plain computation was translated from. -/
inductive NP (P : Program) : Op → AOp → Prop
  | alloc (t : TypeId) (z : List D) (h : zeroCellsT P t = some z) : NP P (.alloc t) (.alloc z)
  | box (t : TypeId) (x : Operand) (y : Opd) (h : cOpd x = some y) : NP P (.box t x) (.box y)
  | bsl (t e : TypeId) (len : Nat) (ps : Array (Nat × Operand)) (z : List D) (qs : List (Nat × Nat × Opd)) (hu : P.underlying t = some (.slice e)) (hz : zeroCellsT P e = some z) (h0 : ¬ (z.length = 0 ∨ sizeT P e ≠ some z.length))
      (h : cParts (fun i => some (i, 0)) ps.toList = some qs) : NP P (.buildSlice t len ps) (.bsl z len (qs.map fun (i, _, x) => (i, x)))
  | mksl (t e : TypeId) (l c : Operand) (l' c' : Opd) (b : Nat) (z : List D) (hu : P.underlying t = some (.slice e)) (hz : zeroCellsT P e = some z) (h0 : ¬ (z.length = 0 ∨ sizeT P e ≠ some z.length)) (hb : bytesT P e = some b)
      (h1 : cOpd l = some l') (h2 : cOpd c = some c') : NP P (.makeSlice t l c) (.mksl b z l' c')
  | mkm (t : TypeId) : NP P (.makeMap t none) .mkm
  | ld (t : TypeId) (x : Operand) (y : Opd) (n : Option Nat) (hs : shapeT P t = some n) (h : cOpd x = some y) : NP P (.load t x) (.ld n y)
  | st (t : TypeId) (p x : Operand) (p' y : Opd) (n : Nat) (hs : sizeT P t = some n) (h1 : cOpd p = some p') (h2 : cOpd x = some y) : NP P (.store t p x) (.st n p' y)
  | slV (t e : TypeId) (x : Operand) (lo hi mx : Option Operand) (y : Opd) (lo' hi' mx' : Option Opd) (n : Nat) (hu : P.underlying t = some (.slice e)) (hs : sizeT P e = some n) (h : cOpd x = some y)
      (h1 : cOpt lo = some lo') (h2 : cOpt hi = some hi') (h3 : cOpt mx = some mx') : NP P (.slice t x lo hi mx) (.slV n y lo' hi' mx')
  | cvBS (s t e : TypeId) (x : Operand) (y : Opd) (hs : P.underlying s = some (.slice e)) (ht : P.underlying t = some .string) (he : P.underlying e = some (.int .u8)) (h : cOpd x = some y) : NP P (.convert s t x) (.cvBS y)
  | look (t k e : TypeId) (m x : Operand) (ok : Bool) (kt : KT) (z : D) (m' y : Opd) (hu : P.underlying t = some (.map k e)) (hk : keyT P k = some kt) (hz : zeroT P e = some z) (h1 : cOpd m = some m') (h2 : cOpd x = some y) : NP P (.lookup t m x ok) (.look kt z ok m' y)
  | upd (t k e : TypeId) (m x v : Operand) (kt : KT) (m' y v' : Opd) (hu : P.underlying t = some (.map k e)) (hk : keyT P k = some kt) (h1 : cOpd m = some m') (h2 : cOpd x = some y) (h3 : cOpd v = some v') : NP P (.mapUpdate t m x v) (.upd kt m' y v')
  | lenM (c : Call) (t k e : TypeId) (x : Operand) (y : Opd) (hc : c.callee = .builtin .len) (ha : c.args.toList = [x]) (ht : c.argTypes[0]? = some t) (hu : P.underlying t = some (.map k e)) (h : cOpd x = some y) : NP P (.call c) (.lenM y)
  | app (c : Call) (t u e e' : TypeId) (s x : Operand) (s' y : Opd) (b n : Nat) (z : List D) (hc : c.callee = .builtin .append) (ha : c.args.toList = [s, x]) (ht : c.argTypes[0]? = some t) (hu : P.underlying t = some (.slice e))
      (ht2 : c.argTypes[1]? = some u) (hu2 : P.underlying u = some (.slice e')) (hz : zeroCellsT P e = some z) (hn : sizeT P e = some n) (hb : bytesT P e = some b) (h0 : z.length ≠ 0) (hzn : z.length = n) (hb0 : b ≠ 0)
      (h1 : cOpd s = some s') (h2 : cOpd x = some y) : NP P (.call c) (.app b n s' y)
  | appS (c : Call) (t u e : TypeId) (s x : Operand) (s' y : Opd) (z : List D) (hc : c.callee = .builtin .append) (ha : c.args.toList = [s, x]) (ht : c.argTypes[0]? = some t) (hu : P.underlying t = some (.slice e))
      (ht2 : c.argTypes[1]? = some u) (hu2 : P.underlying u = some .string) (hz : zeroCellsT P e = some z) (hn : sizeT P e = some 1) (hb : bytesT P e = some 1) (hzn : z.length = 1)
      (h1 : cOpd s = some s') (h2 : cOpd x = some y) : NP P (.call c) (.appS s' y)
  | del (c : Call) (t k e : TypeId) (m x : Operand) (kt : KT) (m' y : Opd) (hc : c.callee = .builtin .delete) (ha : c.args.toList = [m, x]) (ht : c.argTypes[0]? = some t) (hu : P.underlying t = some (.map k e)) (hk : keyT P k = some kt)
      (h1 : cOpd m = some m') (h2 : cOpd x = some y) : NP P (.call c) (.del kt m' y)
  | call (c : Call) (f : Operand) (f' : Opd) (ys : List Opd) (hc : c.callee = .value f) (h1 : cOpd f = some f') (h2 : cOpds c.args.toList = some ys) : NP P (.call c) (.call f' ys false)
  | inv (c : Call) (r : Operand) (name : String) (r' : Opd) (ys : List Opd) (hc : c.callee = .invoke r name) (h1 : cOpd r = some r') (h2 : cOpds c.args.toList = some ys) : NP P (.call c) (.inv r' name ys false)

theorem cOp_np {P : Program} {op : Op} {x : AOp} (hc : cOp P op = some x) (hp : isPure x = false) : NP P op x := by
  cases op
  case move x1 => obtain ⟨y, hy, rfl⟩ := mapE hc; cases hp
  case assign x1 => obtain ⟨y, hy, rfl⟩ := mapE hc; cases hp
  case nilCheck x1 => obtain ⟨y, hy, rfl⟩ := mapE hc; cases hp
  case unOp op t x1 => obtain ⟨y, hy, rfl⟩ := mapE hc; cases hp
  case extract x1 i => obtain ⟨y, hy, rfl⟩ := mapE hc; cases hp
  case pick c x1 x2 =>
    simp only [cOp, Option.bind_eq_bind, Option.bind_eq_some_iff, Option.some.injEq] at hc
    obtain ⟨_, _, _, _, _, _, rfl⟩ := hc; cases hp
  case fieldAddr s x1 f =>
    simp only [cOp] at hc
    split at hc
    · split at hc
      · split at hc
        · split at hc
          · cases hc
          · obtain ⟨y, hy, rfl⟩ := mapE hc; cases hp
        · cases hc
      · cases hc
    · cases hc
  case indexAddr t x1 x2 =>
    simp only [cOp] at hc
    split at hc
    · simp only [Option.bind_eq_bind, Option.bind_eq_some_iff, Option.some.injEq] at hc
      obtain ⟨_, _, _, _, _, _, rfl⟩ := hc; cases hp
    · simp only [Option.bind_eq_bind, Option.bind_eq_some_iff, Option.some.injEq] at hc
      obtain ⟨_, _, _, _, _, _, rfl⟩ := hc; cases hp
    · cases hc
  case index t x1 x2 =>
    simp only [cOp] at hc
    split at hc
    · simp only [Option.bind_eq_bind, Option.bind_eq_some_iff, Option.some.injEq] at hc
      obtain ⟨_, _, _, _, _, _, _, _, rfl⟩ := hc; cases hp
    · simp only [Option.bind_eq_bind, Option.bind_eq_some_iff, Option.some.injEq] at hc
      obtain ⟨_, _, _, _, rfl⟩ := hc; cases hp
    · cases hc
  case field t x1 f =>
    simp only [cOp] at hc
    split at hc
    · split at hc
      · simp only [Option.bind_eq_bind, Option.bind_eq_some_iff, Option.some.injEq] at hc
        obtain ⟨_, _, _, _, rfl⟩ := hc; cases hp
      · cases hc
    · cases hc
  case build t ps =>
    simp only [cOp] at hc
    split at hc
    · split at hc
      · cases hc
      · simp only [Option.bind_eq_bind, Option.bind_eq_some_iff, Option.some.injEq] at hc
        obtain ⟨_, _, _, _, rfl⟩ := hc; cases hp
    · simp only [Option.bind_eq_bind, Option.bind_eq_some_iff, Option.some.injEq] at hc
      obtain ⟨_, _, _, _, _, _, rfl⟩ := hc; cases hp
    · cases hc
  case slice t x1 lo hi mx =>
    simp only [cOp] at hc
    split at hc
    · cases mx with
      | some m => cases hc
      | none =>
        simp only [Option.bind_eq_bind, Option.bind_eq_some_iff, Option.some.injEq] at hc
        obtain ⟨_, _, _, _, _, _, rfl⟩ := hc; cases hp
    · rename_i e hu
      simp only [Option.bind_eq_bind, Option.bind_eq_some_iff, Option.some.injEq] at hc
      obtain ⟨n, hn, y1, hy1, lo', hlo, hi', hhi, mx', hmx, rfl⟩ := hc
      exact .slV _ _ _ _ _ _ _ _ _ _ _ hu hn hy1 hlo hhi hmx
    · cases hc
  case binOp op t x1 x2 yt =>
    simp only [cOp] at hc
    split at hc
    · simp only [Option.bind_eq_bind, Option.bind_eq_some_iff, Option.some.injEq] at hc
      obtain ⟨_, _, _, _, rfl⟩ := hc; cases hp
    · simp only [Option.bind_eq_bind, Option.bind_eq_some_iff, Option.some.injEq] at hc
      obtain ⟨_, _, _, _, rfl⟩ := hc; cases hp
    · split at hc
      · simp only [Option.bind_eq_bind, Option.bind_eq_some_iff, Option.some.injEq] at hc
        obtain ⟨_, _, _, _, _, _, rfl⟩ := hc; cases hp
      · simp only [Option.bind_eq_bind, Option.bind_eq_some_iff, Option.some.injEq] at hc
        obtain ⟨_, _, _, _, _, _, rfl⟩ := hc; cases hp
      · cases hc
  case convert s t x1 =>
    simp only [cOp] at hc
    split at hc
    · obtain ⟨y, hy, rfl⟩ := mapE hc; cases hp
    · obtain ⟨y, hy, rfl⟩ := mapE hc; cases hp
    · rename_i e hu1 hu2
      split at hc
      · rename_i hu3
        obtain ⟨y, hy, rfl⟩ := mapE hc
        exact .cvBS _ _ _ _ _ hu1 hu2 hu3 hy
      · cases hc
    · cases hc
  case makeInterface t x1 =>
    simp only [cOp] at hc
    split at hc
    · cases hc
    · obtain ⟨y, hy, rfl⟩ := mapE hc; cases hp
    · cases hc
  case makeFunc f x1 x2 =>
    simp only [cOp, Option.bind_eq_bind, Option.bind_eq_some_iff, Option.some.injEq] at hc
    obtain ⟨_, _, _, _, rfl⟩ := hc; cases hp
  case typeAssert x1 xt t ok =>
    simp only [cOp] at hc
    split at hc
    · cases hc
    · simp only [Option.bind_eq_bind, Option.bind_eq_some_iff, Option.some.injEq] at hc
      obtain ⟨_, _, _, _, rfl⟩ := hc; cases hp
    · cases hc
  case alloc t => obtain ⟨z, hz, rfl⟩ := Option.map_eq_some_iff.1 hc; exact .alloc _ _ hz
  case box t x1 => obtain ⟨y, hy, rfl⟩ := mapE hc; exact .box _ _ _ hy
  case buildSlice t len ps =>
    simp only [cOp] at hc
    split at hc
    · rename_i e hu
      simp only [Option.bind_eq_bind, Option.bind_eq_some_iff] at hc
      obtain ⟨z, hz, hc⟩ := hc
      split at hc
      · cases hc
      · rename_i h0
        simp only [Option.bind_eq_some_iff, Option.some.injEq, Option.map_eq_some_iff] at hc
        obtain ⟨_, ⟨qs, hq, rfl⟩, rfl⟩ := hc
        exact .bsl _ _ _ _ _ _ hu hz h0 hq
    · cases hc
  case load t x1 =>
    simp only [cOp, Option.bind_eq_bind, Option.bind_eq_some_iff, Option.some.injEq] at hc
    obtain ⟨n, hn, y, hy, rfl⟩ := hc
    exact .ld _ _ _ _ hn hy
  case store t x1 x2 =>
    simp only [cOp, Option.bind_eq_bind, Option.bind_eq_some_iff, Option.some.injEq] at hc
    obtain ⟨n, hn, y, hy, z, hz, rfl⟩ := hc
    exact .st _ _ _ _ _ _ hn hy hz
  case makeMap t r =>
    cases r with
    | none => simp only [cOp, Option.some.injEq] at hc; subst hc; exact .mkm _
    | some r => cases hc
  case makeSlice t l c =>
    simp only [cOp] at hc
    split at hc
    · rename_i e hu
      simp only [Option.bind_eq_bind, Option.bind_eq_some_iff] at hc
      obtain ⟨z, hz, hc⟩ := hc
      split at hc
      · cases hc
      · rename_i h0
        simp only [Option.bind_eq_some_iff, Option.some.injEq] at hc
        obtain ⟨b, hb, l', hl, c', hc', rfl⟩ := hc
        exact .mksl _ _ _ _ _ _ _ _ hu hz h0 hb hl hc'
    · cases hc
  case lookup t m k ok =>
    simp only [cOp] at hc
    split at hc
    · rename_i kt e hu
      simp only [Option.bind_eq_bind, Option.bind_eq_some_iff, Option.some.injEq] at hc
      obtain ⟨k1, h1, z, h2, m1, h3, y1, h4, rfl⟩ := hc
      exact .look _ _ _ _ _ _ _ _ _ _ hu h1 h2 h3 h4
    · cases hc
  case mapUpdate t m k v =>
    simp only [cOp] at hc
    split at hc
    · rename_i kt e hu
      simp only [Option.bind_eq_bind, Option.bind_eq_some_iff, Option.some.injEq] at hc
      obtain ⟨k1, h1, m1, h3, y1, h4, v1, h5, rfl⟩ := hc
      exact .upd _ _ _ _ _ _ _ _ _ _ hu h1 h3 h4 h5
    · cases hc
  case call c =>
    obtain ⟨callee, args, argTypes⟩ := c
    cases callee with
    | value f =>
      simp only [cOp, Option.bind_eq_bind, Option.bind_eq_some_iff, Option.some.injEq] at hc
      obtain ⟨f', h1, ys, h2, rfl⟩ := hc
      exact .call _ _ _ _ rfl h1 h2
    | invoke r m =>
      simp only [cOp, Option.bind_eq_bind, Option.bind_eq_some_iff, Option.some.injEq] at hc
      obtain ⟨f', h1, ys, h2, rfl⟩ := hc
      exact .inv _ _ _ _ _ rfl h1 h2
    | builtin b =>
      simp only [cOp] at hc
      split at hc
      · rename_i x1 hargs
        split at hc
        · obtain ⟨y, hy, rfl⟩ := mapE hc; cases hp
        · obtain ⟨y, hy, rfl⟩ := mapE hc; cases hp
        · rename_i k e ht
          obtain ⟨t, ht1, ht2⟩ := Option.bind_eq_some_iff.1 ht
          obtain ⟨y, hy, rfl⟩ := mapE hc
          exact .lenM _ _ _ _ _ _ rfl hargs ht1 ht2 hy
        · cases hc
      · rename_i s1 x1 hargs
        split at hc
        · rename_i e e' ht1 ht2
          obtain ⟨t, ht1, hu1⟩ := Option.bind_eq_some_iff.1 ht1
          obtain ⟨u, ht2, hu2⟩ := Option.bind_eq_some_iff.1 ht2
          simp only [Option.bind_eq_bind, Option.bind_eq_some_iff] at hc
          obtain ⟨z, hz, n, hn, b, hb, hc⟩ := hc
          split at hc
          · cases hc
          · rename_i hcond
            simp only [not_or, Decidable.not_not] at hcond
            simp only [Option.bind_eq_some_iff, Option.some.injEq] at hc
            obtain ⟨s', h1, y, h2, rfl⟩ := hc
            exact .app _ _ _ _ _ _ _ _ _ _ _ _ rfl hargs ht1 hu1 ht2 hu2 hz hn hb hcond.1 hcond.2.1 hcond.2.2 h1 h2
        · rename_i e ht1 ht2
          obtain ⟨t, ht1, hu1⟩ := Option.bind_eq_some_iff.1 ht1
          obtain ⟨u, ht2, hu2⟩ := Option.bind_eq_some_iff.1 ht2
          simp only [Option.bind_eq_bind, Option.bind_eq_some_iff] at hc
          obtain ⟨z, hz, n, hn, b, hb, hc⟩ := hc
          split at hc
          · cases hc
          · rename_i hcond
            simp only [not_or, Decidable.not_not] at hcond
            obtain ⟨c1, rfl, rfl⟩ := hcond
            simp only [Option.bind_eq_some_iff, Option.some.injEq] at hc
            obtain ⟨s', h1, y, h2, rfl⟩ := hc
            exact .appS _ _ _ _ _ _ _ _ _ rfl hargs ht1 hu1 ht2 hu2 hz hn hb c1 h1 h2
        · cases hc
      · rename_i m1 x1 hargs
        split at hc
        · rename_i k e ht
          obtain ⟨t, ht1, ht2⟩ := Option.bind_eq_some_iff.1 ht
          simp only [Option.bind_eq_bind, Option.bind_eq_some_iff, Option.some.injEq] at hc
          obtain ⟨k1, h1, m', h2, y, h3, rfl⟩ := hc
          exact .del _ _ _ _ _ _ _ _ _ rfl hargs ht1 ht2 h1 h2 h3
        · cases hc
      · simp only [Option.bind_eq_bind, Option.bind_eq_some_iff, Option.some.injEq] at hc
        obtain ⟨_, _, _, _, rfl⟩ := hc; cases hp
      · simp only [Option.bind_eq_bind, Option.bind_eq_some_iff, Option.some.injEq] at hc
        obtain ⟨_, _, _, _, rfl⟩ := hc; cases hp
      · cases hc
  all_goals cases hc
end AM
/- Every operation that looks at memory. -/
namespace AM
open Go

section
variable {φ : Refs} {w : World} {a : Act} {ρ : Env} {P : Program} {bar T : Nat} {h h' : Heap} {d : D}

theorem rowsOk_len {sz : Nat} {es : List (List D)} (h : rowsOk sz es = true) : ∀ cs ∈ es, cs.length = sz := by
  intro cs hcs
  have := List.all_eq_true.1 h cs hcs
  simpa using this

theorem slice_run {t e : TypeId} {x : Operand} {lo hi mx : Option Operand} {ad : Option Addr} {len cap l y m n : Nat} {dst : Option Tmp} {ty : TypeId} {pos : String} {after : Array Edge} {guard : Option (Nat × Bool)}
    (hu : P.underlying t = some (.slice e)) (hn : sizeT P e = some n) (hv : a.eval x = .slice ad len cap) (hb : (Instr.sliceBounds true len cap (lo.map a.eval) (hi.map a.eval) (mx.map a.eval)).run P w = .ok (l, y, m) w) :
    (execOp a.eval ⟨dst, .slice t x lo hi mx, ty, pos, after, guard⟩).run P w = .ok (.value (.slice (if m = l then ad else ad.map (·.add (l * n))) (y - l) (m - l))) w := by
  simp only [execOp, Instr.sliceAt, Sem.run_bind, underlying_run hu, Result.andThen_ok, Instr.slice, hv, hb, sizeT_run hn, Sem.run_pure]

theorem sliceBounds3_run {lo hi mx : Option Operand} {lo' hi' mx' : Option Opd} {len cap lim x y m : Nat} (h1 : cOpt lo = some lo') (h2 : cOpt hi = some hi') (h3 : cOpt mx = some mx') (he : EnvR φ w a ρ) (hm : mx' ≠ none)
    (hlim : lim ≤ cap) (hmb : bound ρ mx' 0 lim = some m) (hb : bound ρ hi' 0 m = some y) (hhi : hi' ≠ none) (ha : bound ρ lo' 0 y = some x) :
    (Instr.sliceBounds true len cap (lo.map a.eval) (hi.map a.eval) (mx.map a.eval)).run P w = .ok (x, y, m) w ∧ x ≤ y ∧ y ≤ m ∧ m ≤ lim := by
  rcases bound_run h3 he hmb with ⟨_, rfl, _⟩ | ⟨q, k2, j2, rfl, hq, e1, e2, rfl⟩
  · exact absurd rfl hm
  · rcases bound_run h2 he hb with ⟨_, rfl, _⟩ | ⟨u, k, i, rfl, hu, g1, g2, rfl⟩
    · exact absurd rfl hhi
    · have hc : j2 ≤ (cap : Int) := by omega
      rcases bound_run h1 he ha with ⟨rfl, rfl, rfl⟩ | ⟨v, k', j, rfl, hv, f1, f2, rfl⟩
      · refine ⟨by simp [Instr.sliceBounds, hq, hu, sliceBound_run e1 hc, sliceBound_run g1 g2], by omega, by omega, by omega⟩
      · refine ⟨by simp [Instr.sliceBounds, hq, hu, hv, sliceBound_run e1 hc, sliceBound_run g1 g2, sliceBound_run f1 f2], by omega, by omega, by omega⟩

theorem bound_le {lo : Option Opd} {dflt n b : Nat} (hd : dflt ≤ n) (hb : bound ρ lo dflt n = some b) : b ≤ n := by
  cases lo with
  | none => simp only [bound, Option.some.injEq] at hb; omega
  | some x =>
    simp only [bound] at hb
    obtain ⟨e, h1, hb⟩ := bnd_eq hb
    obtain ⟨i, h2, hb⟩ := bnd_eq hb
    exact (inBound_eq hb).2.2.2

theorem read_sim {o : Oper} {x : AOp} (hc : cOp P o.op = some x) (hp : isRead x = true) (hs : step bar T x ρ h = some (d, h')) (he : EnvR φ w a ρ) (hI : Inv φ w T (getO T h)) :
    h' = h ∧ Pure1 φ w ((execOp a.eval o).run P w) d := by
  obtain ⟨dst, op, ty, pos, after, guard⟩ := o
  simp only at hc
  have hnp := cOp_np hc (by cases x <;> first | rfl | cases hp)
  cases hnp <;> first | (cases hp; done) | skip
  case ld t x1 y n hsh hy =>
    simp only [step] at hs
    obtain ⟨e, h1, hs⟩ := bnd_eq hs
    obtain ⟨r, h2, hs⟩ := bnd_eq hs
    obtain ⟨rfl, rfl⟩ := some_pair hs
    obtain ⟨v, g1, g2⟩ := ld_run (P := P) hsh hI (opd_rep hy h1 he) h2
    exact ⟨rfl, .mk' (v := v) (by simp [execOp, g1]) g2⟩
  case cvBS s t e x1 y hu1 hu2 hu3 hy =>
    simp only [step] at hs
    obtain ⟨y1, h1, hs⟩ := bnd_eq hs
    obtain ⟨es, h2, hs⟩ := bnd_eq hs
    obtain ⟨str, h3, hs⟩ := bnd_eq hs
    obtain ⟨rfl, rfl⟩ := some_pair hs
    obtain ⟨c1, c2⟩ := asChars_eq h3
    have hr := opd_rep hy h1 he
    have hconv : ∀ v, a.eval x1 = v → (∀ s, v ≠ .string s) → (∀ k n, v ≠ .int k n) → (execOp a.eval ⟨dst, .convert s t x1, ty, pos, after, guard⟩).run P w = ((Conv.bytesToString v).run P w).andThen fun r w' => .ok (.value r) w' := by
      intro v hv n1 n2
      simp only [execOp, convert, Sem.run_bind, underlying_run hu1, underlying_run hu2, Result.andThen_ok, hv]
      cases v <;> first | (exact absurd rfl (n1 _)) | (exact absurd rfl (n2 _ _)) | skip
      all_goals simp only [underlying_run hu3, Result.andThen_ok, Sem.run_pure]
    refine ⟨rfl, ?_⟩
    rcases elems_cells hI hr h2 with ⟨rfl, ad, cap, hv⟩ | ⟨b, o, len, cap, sz, hv, hl, hcap, hes, hone, hcell⟩
    · have hs0 : str = [] := List.eq_nil_of_length_eq_zero c1.symm
      subst hs0
      refine .mk' (v := .string ⟨#[]⟩) ?_ (.str [])
      rw [hconv _ hv (by simp) (by simp)]
      cases ad with
      | none => rfl
      | some ad =>
        have : (loadCells ad 0).run P w = .ok #[] w := rfl
        simp only [Conv.bytesToString, Sem.run_bind, this, Result.andThen_ok]
        rfl
    · have hcells : ∀ k, k < es.length → ∃ n : Int, w.cell? ⟨b, o + k, none⟩ = some (.int .u8 n) ∧ str[k]? = some (UInt8.ofNat n.toNat) := by
        intro k hk
        obtain ⟨n, e1, e2⟩ := c2 k _ (List.getElem?_eq_getElem hk)
        have hsz : sz = 1 := by have := hes _ (List.getElem_mem hk); rw [e1] at this; simpa using this.symm
        obtain ⟨v, f1, f2⟩ := hcell k _ 0 (.int .u8 n) (List.getElem?_eq_getElem hk) (by rw [e1]; rfl)
        rw [hsz, Nat.mul_one, Nat.add_zero] at f1
        exact ⟨n, by rw [f1, f2.int_inv], e2⟩
      let f : Nat → Value := fun k => (w.cell? ⟨b, o + k, none⟩).getD undef
      have hf : ∀ k, k < len → w.cell? ((⟨b, o, none⟩ : Addr).add k) = some (f k) := by
        intro k hk
        obtain ⟨n, e1, _⟩ := hcells k (by omega)
        rw [add_at]; simp [f, e1]
      have hload := run_loadCells (P := P) w ⟨b, o, none⟩ len f hf
      have hloop := bytesLoop (P := P) (w := w) ((List.range len).map f) str ByteArray.empty (by simp; omega) (by
        intro i v hv
        rw [List.getElem?_map] at hv
        cases hr2 : (List.range len)[i]? with
        | none => simp [hr2] at hv
        | some j =>
          have hj := List.getElem?_eq_some_iff.1 hr2
          obtain ⟨hj1, hj2⟩ := hj
          simp at hj1 hj2
          subst hj2
          simp only [hr2, Option.map_some, Option.some.injEq] at hv
          obtain ⟨n, e1, e2⟩ := hcells i (by omega)
          refine ⟨n, ?_, e2⟩
          rw [← hv]; simp [f, e1])
      refine .mk' (v := .string ⟨str.toArray⟩) ?_ (.str str)
      rw [hconv _ hv (by simp) (by simp)]
      simp only [Conv.bytesToString, Sem.run_bind, hload, Result.andThen_ok, ← Array.forIn_toList]
      refine (congrArg (fun (r : Result ByteArray) => Result.andThen (Result.andThen r fun s w' => (Pure.pure (Value.string s) : Go.Sem Value).run P w') fun r w' => Result.ok (Next.value r) w') hloop).trans ?_
      simp [ByteArray.empty, ByteArray.emptyWithCapacity]
      rfl
  case slV t e x1 lo hi mx y lo' hi' mx' n hu hn hy hlo hhi hmx =>
    simp only [step] at hs
    obtain ⟨e1, h1, hs⟩ := bnd_eq hs
    obtain ⟨r, h2, hs⟩ := bnd_eq hs
    obtain ⟨rfl, rfl⟩ := some_pair hs
    have hr := opd_rep hy h1 he
    refine ⟨rfl, ?_⟩
    generalize hv : a.eval x1 = v at hr
    unfold slVD at h2
    split at h2
    · rename_i es
      split at h2
      · cases h2
      · obtain ⟨yb, hb1, h2⟩ := bnd_eq h2
        obtain ⟨xb, hb2, h2⟩ := bnd_eq h2
        obtain ⟨hrow, h2⟩ := brk_none h2
        simp only [Option.some.injEq] at h2; subst h2
        have hmx0 : mx = none := by
          cases mx with
          | none => rfl
          | some m => simp only [cOpt] at hmx; cases hq : cOpd m <;> simp [hq] at hmx
        subst hmx0
        have hyl : yb ≤ es.length := bound_le (Nat.le_refl _) hb1
        cases hr with
        | slE ad cap =>
          obtain ⟨g1, g2, _⟩ := sliceBounds_run (P := P) (isS := true) (len := 0) (cap := cap) hlo hhi he (by simp at hyl; omega) hb1 hb2
          refine .mk' (slice_run hu hn hv g1) ?_
          have : yb - xb = 0 := by simp at hyl; omega
          rw [this]
          simpa using Rep.slE (φ := φ) (w := w) _ _
        | sl b o len cap sz es c hlen hcap himm hlv hes hone hc2 hrr =>
          obtain ⟨g1, g2, _⟩ := sliceBounds_run (P := P) (isS := true) (len := len) (cap := cap) hlo hhi he (by omega) (by rw [← hlen]; exact hb1) hb2
          refine .mk' (slice_run hu hn hv g1) ?_
          rcases Nat.lt_or_ge xb yb with hlt | hge
          · have hne : ¬ cap = xb := by omega
            have hsz : sz = n := by
              have hm := List.getElem_mem (l := es) (n := 0) (by omega)
              rw [← hes _ hm]; exact rowsOk_len hrow _ hm
            rw [if_neg hne]
            simp only [Option.map_some, add_at]
            have hget : ∀ (i : Nat) (cs : List D), ((es.take yb).drop xb)[i]? = some cs → es[xb + i]? = some cs := by
              intro i cs h
              rw [List.getElem?_drop, List.getElem?_take] at h
              split at h
              · exact h
              · cases h
            refine .sl b (o + xb * n) (yb - xb) (cap - xb) sz _ (fun k => c (xb * sz + k)) (by simp; omega) (by omega) himm ?_ ?_ ?_ ?_ ?_
            · exact Nat.le_zero.1 (lvlEs_le.2 fun cs hcs => lvlEs_le.1 (Nat.le_of_eq hlv) cs (List.mem_of_mem_take (List.mem_of_mem_drop hcs)))
            · exact fun cs hcs => hes cs (List.mem_of_mem_take (List.mem_of_mem_drop hcs))
            · exact fun cs hcs => hone cs (List.mem_of_mem_take (List.mem_of_mem_drop hcs))
            · intro i cs j d h1 h2
              have := hc2 (xb + i) cs j d (hget i cs h1) h2
              rw [show (xb + i) * sz + j = xb * sz + (i * sz + j) by rw [Nat.add_mul]; omega] at this
              rw [← this, ← hsz, Nat.add_assoc]
            · intro i cs j d h1 h2
              have := hrr (xb + i) cs j d (hget i cs h1) h2
              rwa [show (xb + i) * sz + j = xb * sz + (i * sz + j) by rw [Nat.add_mul]; omega] at this
          · have e0 : yb - xb = 0 := by omega
            rw [e0, List.drop_of_length_le (by simp; omega)]
            exact .slE _ _
    · split at h2
      · cases h2
      · obtain ⟨yb, hb1, h2⟩ := bnd_eq h2
        obtain ⟨xb, hb2, h2⟩ := bnd_eq h2
        simp only [Option.some.injEq] at h2; subst h2
        have hmx0 : mx = none := by
          cases mx with
          | none => rfl
          | some m => simp only [cOpt] at hmx; cases hq : cOpd m <;> simp [hq] at hmx
        subst hmx0
        cases hr
        have hyl : yb ≤ 0 := bound_le (Nat.le_refl _) hb1
        have hyx : xb ≤ yb := bound_le (Nat.zero_le _) (by
          have : yb = 0 := by omega
          rw [this]; exact hb2)
        obtain rfl : yb = 0 := by omega
        obtain rfl : xb = 0 := by omega
        obtain ⟨g1, g2, _⟩ := sliceBounds_run (P := P) (isS := true) (len := 0) (cap := 0) hlo hhi he (by omega) hb1 hb2
        exact .mk' (slice_run hu hn hv g1) (by simpa using Rep.nil (φ := φ) (w := w))
    · rename_i l i off len sz' lim
      obtain ⟨hz, h2⟩ := brk_none h2
      simp only [beq_iff_eq] at hz
      obtain ⟨ob, h3, h2⟩ := bnd_eq h2
      obtain ⟨es, h4, h2⟩ := bnd_eq h2
      have := asArr_eq h4; subst this
      cases hr with
      | own l i off len cap sz lim r ad hφ hsz k1 k2 k3 k4 =>
        obtain ⟨c0, ty0, _, _, hesl, _⟩ := hI.obj l i r _ hφ h3
        have fin : ∀ (xb yb mb : Nat) (lim' : Bool), xb ≤ yb → yb ≤ mb → mb ≤ cap → (lim' = false → off + mb = r.cap) →
            Rep φ w (.slice (if mb = xb then some ad else (some ad).map (·.add (xb * n))) (yb - xb) (mb - xb)) (.own l i (off + xb) (yb - xb) n lim') := by
          intro xb yb mb lim' q1 q2 q3 q4
          have hq : ∃ ad', (if mb = xb then some ad else (some ad).map (·.add (xb * n))) = some ad' ∧ (0 < mb - xb → ad' = ⟨r.blk, r.base + (off + xb) * r.size, none⟩) := by
            by_cases hm : mb = xb
            · rw [if_pos hm]; exact ⟨ad, rfl, fun h => by omega⟩
            · rw [if_neg hm]
              refine ⟨_, rfl, fun _ => ?_⟩
              show Addr.add ad (xb * n) = _
              rw [k4 (by omega), add_at, Nat.add_mul, hsz, hz, Nat.add_assoc]
          obtain ⟨ad', e1, e2⟩ := hq
          rw [e1]
          exact .own l i (off + xb) (yb - xb) (mb - xb) n lim' r ad' hφ (by omega) (by omega) (fun h => by have := q4 h; omega) (by omega) e2
        clear hs hp
        cases mx' with
        | none =>
          replace h2 : (bnd (bound ρ hi' len (es.length - off)) fun b => bnd (bound ρ lo' 0 b) fun a => brk (lim && decide (len < b)) none (some (D.own l i (off + a) (b - a) n lim))) = some _ := h2
          have hmx0 : mx = none := by
            cases mx with
            | none => rfl
            | some m => simp only [cOpt] at hmx; cases hq : cOpd m <;> simp [hq] at hmx
          subst hmx0
          obtain ⟨yb, hb1, h2⟩ := bnd_eq h2
          obtain ⟨xb, hb2, h2⟩ := bnd_eq h2
          rcases brk_eq h2 with ⟨_, h2⟩ | ⟨hcnd, h2⟩
          · cases h2
          · simp only [Option.some.injEq] at h2; subst h2
            simp only [Bool.and_eq_false_imp, decide_eq_false_iff_not, Nat.not_lt] at hcnd
            have hyc : yb ≤ cap := by
              rcases bound_run hhi he hb1 with ⟨_, _, rfl⟩ | ⟨_, _, j, _, _, g1, g2, rfl⟩
              · omega
              · cases lim
                · have := k2 rfl; omega
                · have := hcnd rfl; omega
            obtain ⟨g1, g2, _⟩ := sliceBounds_run (P := P) (isS := true) (len := len) (cap := cap) hlo hhi he hyc hb1 hb2
            exact .mk' (slice_run hu hn hv g1) (fin xb yb cap lim g2 hyc (Nat.le_refl _) k2)
        | some m =>
          replace h2 : brk hi'.isSome (bnd (bound ρ (some m) 0 (es.length - off)) fun m' => bnd (bound ρ hi' 0 m') fun b => bnd (bound ρ lo' 0 b) fun a => brk lim none (some (D.own l i (off + a) (b - a) n true))) none = some _ := h2
          obtain ⟨hhi1, h2⟩ := brk_none h2
          obtain ⟨mb, hb0, h2⟩ := bnd_eq h2
          obtain ⟨yb, hb1, h2⟩ := bnd_eq h2
          obtain ⟨xb, hb2, h2⟩ := bnd_eq h2
          rcases brk_eq h2 with ⟨_, h2⟩ | ⟨hl, h2⟩
          · cases h2
          · simp only [Option.some.injEq] at h2; subst h2
            have hcap := k2 hl
            have hhi0 : hi' ≠ none := by
              rintro rfl
              cases hhi1
            obtain ⟨g1, g2, g3, g4⟩ := sliceBounds3_run (P := P) (len := len) (cap := cap) hlo hhi hmx he (by simp) (lim := es.length - off) (by omega) hb0 hb1 hhi0 hb2
            exact .mk' (slice_run hu hn hv g1) (fin xb yb mb true g2 g3 (by omega) (fun h => by cases h))
    · cases h2
  case look t k e m x1 ok kt z m' y hu hk hz hm hy =>
    simp only [step] at hs
    obtain ⟨e1, h1, hs⟩ := bnd_eq hs
    obtain ⟨e2, h2, hs⟩ := bnd_eq hs
    obtain ⟨r, h3, hs⟩ := bnd_eq hs
    obtain ⟨rfl, rfl⟩ := some_pair hs
    have hr1 := opd_rep hm h1 he
    have hr2 := opd_rep hy h2 he
    obtain ⟨zv, z1, z2, _⟩ := zeroT_run (φ := φ) (w := w) hz
    refine ⟨rfl, ?_⟩
    generalize hv : a.eval m = v at hr1
    unfold lookD at h3
    split at h3
    · obtain ⟨hok, h3⟩ := brk_none h3
      simp only [Option.some.injEq] at h3; subst h3
      cases hr1
      have hck := checkKey_run (P := P) true hk hr2 hok
      refine .mk' (v := if ok then .tuple #[zv, .bool false] else zv) ?_ (okD_rep z2)
      simp only [execOp, Instr.lookup, Sem.run_bind, underlying_run hu, Result.andThen_ok, hv, Sem.run_pure, Array.isEmpty_empty, hck, Instr.findKey]
      have hun : ∃ u, P.underlying k = some u := by
        unfold keyT at hk
        split at hk
        · exact ⟨_, by assumption⟩
        · exact ⟨_, by assumption⟩
        · unfold skT at hk
          cases hq : P.underlying k with
          | none => simp [hq] at hk
          | some u => exact ⟨u, rfl⟩
      obtain ⟨u, hun⟩ := hun
      simp [underlying, hun, Instr.findNow, z1]
    · rename_i l i _ _
      obtain ⟨ob, h4, h3⟩ := bnd_eq h3
      obtain ⟨es, h5, h3⟩ := bnd_eq h3
      obtain ⟨hok, h3⟩ := brk_none h3
      obtain ⟨q, h6, h3⟩ := bnd_eq h3
      have := asMap_eq h5; subst this
      cases hr1 with
      | map l i rf hφ =>
        obtain ⟨ents, clock, g1, g2⟩ := map_ents hI hφ h4
        obtain ⟨f, f1, f2⟩ := findKey_run (P := P) hk hr2 g2 h6
        have hck := checkKey_run (P := P) ents.isEmpty hk hr2 hok
        have hgo := getObj_run (P := P) g1 (by simp)
        have hrun : (execOp a.eval ⟨dst, .lookup t m x1 ok, ty, pos, after, guard⟩).run P w = .ok (.value (match f with
            | some (_, v) => if ok then .tuple #[v, .bool true] else v
            | none => if ok then .tuple #[zv, .bool false] else zv)) w := by
          simp only [execOp, Instr.lookup, Sem.run_bind, underlying_run hu, Result.andThen_ok, hv, hgo, Sem.run_pure, hck, f1]
          cases f with
          | none => simp [z1]
          | some p => simp
        cases f with
        | none =>
          cases q with
          | none =>
            simp only [Option.some.injEq] at h3; subst h3
            exact .mk' hrun (okD_rep z2)
          | some q => exact f2.elim
        | some p =>
          obtain ⟨pi, pv⟩ := p
          cases q with
          | none => exact f2.elim
          | some q =>
            obtain ⟨qi, qd⟩ := q
            simp only [Option.some.injEq] at h3; subst h3
            exact .mk' hrun (okD_rep f2.2)
    · cases h3
  case lenM c t k e x1 y hcal harg ht hu hy =>
    simp only [step] at hs
    obtain ⟨e1, h1, hs⟩ := bnd_eq hs
    obtain ⟨r, h2, hs⟩ := bnd_eq hs
    obtain ⟨rfl, rfl⟩ := some_pair hs
    have hr := opd_rep hy h1 he
    have harg' : c.args[0]? = some x1 := by rw [← Array.getElem?_toList, harg]; rfl
    refine ⟨rfl, ?_⟩
    generalize hv : a.eval x1 = v at hr
    unfold lenMD at h2
    split at h2
    · simp only [Option.some.injEq] at h2; subst h2
      cases hr
      refine .mk' (v := .int .i64 0) ?_ (.int _ _)
      simp only [execOp, resolve, hcal, Sem.run_bind, Sem.run_pure, Result.andThen_ok, invoke, builtin, Builtin.len_, ht, Array.getElem?_map, harg', Option.map_some, underlying_run hu, hv, goInt]
    · rename_i l i _
      obtain ⟨ob, h4, h3⟩ := bnd_eq h2
      obtain ⟨es, h5, h3⟩ := bnd_eq h3
      simp only [Option.some.injEq] at h3; subst h3
      have := asMap_eq h5; subst this
      cases hr with
      | map l i rf hφ =>
        obtain ⟨ents, clock, g1, g2⟩ := map_ents hI hφ h4
        have hgo := getObj_run (P := P) g1 (by simp)
        have hsz : ents.size = es.length := by simpa using g2.1
        refine .mk' (v := .int .i64 es.length) ?_ (.int _ _)
        simp only [execOp, resolve, hcal, Sem.run_bind, Sem.run_pure, Result.andThen_ok, invoke, builtin, Builtin.len_, ht, Array.getElem?_map, harg', Option.map_some, underlying_run hu, hv, hgo, goInt, hsz]
    · cases h2
end
end AM
/- What making an object and changing one do to the relation of the two memories. -/
namespace AM
open Go

section
variable {φ : Refs} {w w' : World} {P : Program} {T l i : Nat} {C C' : Cont} {r : Ref} {o o' : Obj}

/-- What lies goes on lying where its block stays. -/
theorem ObjOk.ext {φ' : Refs} {T : Nat} {C C' : Cont} (he : Ext T C φ w C' φ' w') (hb : w'.heap[r.blk]? = w.heap[r.blk]?) (h : ObjOk φ w l r o) : ObjOk φ' w' l r o := by
  cases o with
  | dead => trivial
  | arr es =>
    obtain ⟨c, ty, g1, g2, g3, g4, g5, g6, g7⟩ := h
    exact ⟨c, ty, hb.trans g1, g2, g3, g4, g5, g6, fun e cs j d h1 h2 => let ⟨v, f1, f2⟩ := g7 e cs j d h1 h2; ⟨v, f1, he.rep f2⟩⟩
  | map es =>
    obtain ⟨ents, clock, g1, g2, g3, g4⟩ := h
    exact ⟨ents, clock, hb.trans g1, g2, g3, fun i e p h1 h2 => let ⟨f1, f2⟩ := g4 i e p h1 h2; ⟨he.rep f1, he.rep f2⟩⟩

def addR (φ : Refs) (l i : Nat) (r : Ref) : Refs := fun l' i' => if l' = l ∧ i' = i then some r else φ l' i'
theorem addR_same : addR φ l i r l i = some r := by simp [addR]
theorem addR_other {l' i' : Nat} (h : ¬ (l' = l ∧ i' = i)) : addR φ l i r l' i' = φ l' i' := by simp [addR, h]
theorem addR_old {l' i' : Nat} {r' : Ref} (h0 : φ l i = none) (h : φ l' i' = some r') : addR φ l i r l' i' = some r' := by
  rw [addR_other, h]
  rintro ⟨rfl, rfl⟩
  rw [h0] at h; cases h
theorem addR_inv {l' i' : Nat} {r' : Ref} (h : addR φ l i r l' i' = some r') : (l' = l ∧ i' = i ∧ r' = r) ∨ φ l' i' = some r' := by
  unfold addR at h
  split at h
  · rename_i h1; cases h; exact .inl ⟨h1.1, h1.2, rfl⟩
  · exact .inr h

/-- A new object in a new block. -/
theorem alloc_ext (hφ : φ l i = none) (hCn : C l i = none) (hC' : ∀ l' i', C' l' i' = if l' = l ∧ i' = i then some o else C l' i')
    (h1 : w'.os = w.os) (h2 : w'.tape = w.tape) (h3 : w'.output = w.output) {ob : Go.Obj} (hw : w'.heap = w.heap.push ob) (hr : r.blk = w.heap.size) :
    Ext T C φ w C' (addR φ l i r) w' where
  os := h1
  tape := h2
  output := h3
  size := by rw [hw]; simp
  ref l' i' r' h := addR_old hφ h
  keep b hlt _ := by rw [hw, Array.getElem?_push, if_neg (Nat.ne_of_lt hlt)]
  new l' i' r' h := by
    rcases addR_inv h with ⟨rfl, rfl, rfl⟩ | h
    · exact .inr ⟨hφ, hCn, by rw [hC']; simp, .inl (by omega)⟩
    · exact .inl h
  live l' i' r' h hl := by
    obtain ⟨o1, g1, g2⟩ := hl
    rw [hC'] at g1
    split at g1
    · rename_i hq; rw [hq.1, hq.2, hφ] at h; cases h
    · exact ⟨o1, g1, g2⟩
  grow l' i' _ h := by
    rw [hC']
    split
    · rfl
    · exact h

theorem alloc_inv (hI : Inv φ w T C) (hl : l < T) (hφ : φ l i = none) (hC' : ∀ l' i', C' l' i' = if l' = l ∧ i' = i then some o else C l' i')
    {ob : Go.Obj} (hw : w'.heap = w.heap.push ob) (hr : r.blk = w.heap.size) (he : Ext T C φ w C' (addR φ l i r) w') (hok : ObjOk (addR φ l i r) w' l r o) : Inv (addR φ l i r) w' T C' where
  bnd l' i' r' h := by
    rcases addR_inv h with ⟨rfl, rfl, rfl⟩ | h
    · exact ⟨hl, by rw [hw]; simp; omega⟩
    · have := hI.bnd l' i' r' h
      exact ⟨this.1, by rw [hw]; simp; omega⟩
  lev l1 i1 r1 l2 i2 r2 g1 g2 hne := by
    rcases addR_inv g1 with ⟨rfl, rfl, rfl⟩ | k1 <;> rcases addR_inv g2 with ⟨rfl, rfl, rfl⟩ | k2
    · exact absurd rfl hne
    · have := (hI.bnd _ _ _ k2).2; omega
    · have := (hI.bnd _ _ _ k1).2; omega
    · exact hI.lev _ _ _ _ _ _ k1 k2 hne
  inj l1 i1 r1 i2 r2 g1 g2 v1 v2 hne := by
    rcases addR_inv g1 with ⟨rfl, rfl, rfl⟩ | k1 <;> rcases addR_inv g2 with ⟨e1, rfl, rfl⟩ | k2
    · exact absurd rfl hne
    · have := (hI.bnd _ _ _ k2).2; omega
    · have := (hI.bnd _ _ _ k1).2; omega
    · exact hI.inj _ _ _ _ _ k1 k2 (he.live _ _ _ k1 v1) (he.live _ _ _ k2 v2) hne
  obj l' i' r' o' h hc := by
    rcases addR_inv h with ⟨rfl, rfl, rfl⟩ | k
    · rw [hC'] at hc; simp at hc; subst hc; exact hok
    · have hne : ¬ (l' = l ∧ i' = i) := by rintro ⟨rfl, rfl⟩; rw [hφ] at k; cases k
      rw [hC', if_neg hne] at hc
      have hlt := (hI.bnd _ _ _ k).2
      exact (hI.obj l' i' r' o' k hc).ext he (by rw [hw, Array.getElem?_push, if_neg (Nat.ne_of_lt hlt)])

/-- A live object is changed. -/
theorem store_ext (hφ : φ l i = some r) (hC : C l i = some o) (hod : o ≠ .dead) (hC' : ∀ l' i', C' l' i' = if l' = l ∧ i' = i then some o' else C l' i')
    (h1 : w'.os = w.os) (h2 : w'.tape = w.tape) (h3 : w'.output = w.output) (hsz : w'.heap.size = w.heap.size) (hoth : ∀ b, b ≠ r.blk → w'.heap[b]? = w.heap[b]?) :
    Ext T C φ w C' φ w' where
  os := h1
  tape := h2
  output := h3
  size := by omega
  ref l' i' r' h := h
  keep b hlt hn := hoth b (by rintro rfl; exact hn l i r hφ rfl ⟨o, hC, hod⟩)
  new l' i' r' h := .inl h
  live l' i' r' h hl := by
    obtain ⟨o1, g1, g2⟩ := hl
    rw [hC'] at g1
    split at g1
    · rename_i hq; rw [hq.1, hq.2]; exact ⟨o, hC, hod⟩
    · exact ⟨o1, g1, g2⟩
  grow l' i' _ h := by
    rw [hC']
    split
    · rfl
    · exact h

/-- Blocks of other live objects are others. -/
theorem other_blk (hI : Inv φ w T C) (hφ : φ l i = some r) (hl : Live C l i) {l' i' : Nat} {r' : Ref} (h : φ l' i' = some r') (hl' : Live C l' i') (hne : ¬ (l' = l ∧ i' = i)) : r'.blk ≠ r.blk := by
  by_cases e : l' = l
  · subst e
    exact hI.inj _ _ _ _ _ h hφ hl' hl (fun e => hne ⟨rfl, e⟩)
  · exact hI.lev _ _ _ _ _ _ h hφ e

theorem store_inv (hI : Inv φ w T C) (hφ : φ l i = some r) (hC : C l i = some o) (hod : o ≠ .dead) (hC' : ∀ l' i', C' l' i' = if l' = l ∧ i' = i then some o' else C l' i')
    (hsz : w'.heap.size = w.heap.size) (hoth : ∀ b, b ≠ r.blk → w'.heap[b]? = w.heap[b]?) (he : Ext T C φ w C' φ w') (hok : ObjOk φ w' l r o') : Inv φ w' T C' where
  bnd l' i' r' h := by rw [hsz]; exact hI.bnd l' i' r' h
  lev := hI.lev
  inj l1 i1 r1 i2 r2 g1 g2 v1 v2 hne := hI.inj _ _ _ _ _ g1 g2 (he.live _ _ _ g1 v1) (he.live _ _ _ g2 v2) hne
  obj l' i' r' o2 h hc := by
    by_cases hq : l' = l ∧ i' = i
    · obtain ⟨rfl, rfl⟩ := hq
      rw [hφ] at h; cases h
      rw [hC'] at hc; simp at hc; subst hc; exact hok
    · rw [hC', if_neg hq] at hc
      by_cases hd : o2 = .dead
      · subst hd; trivial
      · exact (hI.obj l' i' r' o2 h hc).ext he (hoth _ (other_blk hI hφ ⟨o, hC, hod⟩ h ⟨o2, hc, hd⟩ hq))

/-- An object is no longer looked at. -/
theorem kill_ext (hC' : ∀ l' i', C' l' i' = if l' = l ∧ i' = i then some .dead else C l' i') : Ext T C φ w C' φ w where
  os := rfl
  tape := rfl
  output := rfl
  size := Nat.le_refl _
  ref l' i' r' h := h
  keep b hlt hn := rfl
  new l' i' r' h := .inl h
  live l' i' r' h hl := by
    obtain ⟨o1, g1, g2⟩ := hl
    rw [hC'] at g1
    split at g1
    · cases g1; exact absurd rfl g2
    · exact ⟨o1, g1, g2⟩
  grow l' i' _ h := by
    rw [hC']
    split
    · rfl
    · exact h

theorem kill_inv (hI : Inv φ w T C) (hC' : ∀ l' i', C' l' i' = if l' = l ∧ i' = i then some .dead else C l' i') : Inv φ w T C' where
  bnd := hI.bnd
  lev := hI.lev
  inj l1 i1 r1 i2 r2 g1 g2 v1 v2 hne := hI.inj _ _ _ _ _ g1 g2 ((kill_ext (T := T) (φ := φ) (w := w) hC').live _ _ _ g1 v1) ((kill_ext (T := T) (φ := φ) (w := w) hC').live _ _ _ g2 v2) hne
  obj l' i' r' o2 h hc := by
    rw [hC'] at hc
    split at hc
    · cases hc; trivial
    · exact hI.obj l' i' r' o2 h hc

/-- An object gives its block to a new one. -/
theorem move_ext {i2 : Nat} {r2 : Ref} (hφ : φ l i = some r) (hφ2 : φ l i2 = none) (hC : C l i = some o) (hC2 : C l i2 = none) (hod : o ≠ .dead) (hC' : ∀ l' i', C' l' i' = if l' = l ∧ i' = i2 then some o' else if l' = l ∧ i' = i then some .dead else C l' i')
    (h1 : w'.os = w.os) (h2 : w'.tape = w.tape) (h3 : w'.output = w.output) (hsz : w'.heap.size = w.heap.size) (hoth : ∀ b, b ≠ r.blk → w'.heap[b]? = w.heap[b]?) (hr : r2.blk = r.blk) :
    Ext T C φ w C' (addR φ l i2 r2) w' where
  os := h1
  tape := h2
  output := h3
  size := by omega
  ref l' i' r' h := addR_old hφ2 h
  keep b hlt hn := hoth b (by rintro rfl; exact hn l i r hφ rfl ⟨o, hC, hod⟩)
  new l' i' r' h := by
    rcases addR_inv h with ⟨rfl, rfl, rfl⟩ | h
    · exact .inr ⟨hφ2, hC2, by rw [hC']; simp, .inr ⟨i, r, hφ, hr.symm, o, hC, hod⟩⟩
    · exact .inl h
  live l' i' r' h hl := by
    obtain ⟨o1, g1, g2⟩ := hl
    rw [hC'] at g1
    split at g1
    · rename_i hq; rw [hq.1, hq.2, hφ2] at h; cases h
    · split at g1
      · cases g1; exact absurd rfl g2
      · exact ⟨o1, g1, g2⟩
  grow l' i' _ h := by
    rw [hC']
    split
    · rfl
    · split
      · rfl
      · exact h

theorem move_inv {i2 : Nat} {r2 : Ref} (hI : Inv φ w T C) (hφ : φ l i = some r) (hφ2 : φ l i2 = none) (hC : C l i = some o) (hod : o ≠ .dead) (hC' : ∀ l' i', C' l' i' = if l' = l ∧ i' = i2 then some o' else if l' = l ∧ i' = i then some .dead else C l' i')
    (hsz : w'.heap.size = w.heap.size) (hoth : ∀ b, b ≠ r.blk → w'.heap[b]? = w.heap[b]?) (hr : r2.blk = r.blk) (he : Ext T C φ w C' (addR φ l i2 r2) w') (hok : ObjOk (addR φ l i2 r2) w' l r2 o') : Inv (addR φ l i2 r2) w' T C' where
  bnd l' i' r' h := by
    have hr0 := hI.bnd l i r hφ
    rcases addR_inv h with ⟨rfl, rfl, rfl⟩ | h
    · exact ⟨hr0.1, by rw [hsz, hr]; exact hr0.2⟩
    · rw [hsz]; exact hI.bnd l' i' r' h
  lev l1 i1 r1 l2 i2 r2 g1 g2 hne := by
    rcases addR_inv g1 with ⟨rfl, rfl, rfl⟩ | k1 <;> rcases addR_inv g2 with ⟨rfl, rfl, rfl⟩ | k2
    · exact absurd rfl hne
    · rw [hr]; exact hI.lev _ _ _ _ _ _ hφ k2 hne
    · rw [hr]; exact hI.lev _ _ _ _ _ _ k1 hφ hne
    · exact hI.lev _ _ _ _ _ _ k1 k2 hne
  inj l1 i1 r1 i3 r3 g1 g2 v1 v2 hne := by
    have key : ∀ {i' : Nat} {r' : Ref}, φ l i' = some r' → Live C' l i' → r'.blk ≠ r.blk := by
      intro i' r' g v
      refine other_blk hI hφ ⟨o, hC, hod⟩ g (he.live _ _ _ g v) ?_
      rintro ⟨_, rfl⟩
      obtain ⟨o1, q1, q2⟩ := v
      rw [hC'] at q1
      split at q1
      · rename_i hq; rw [← hq.2, hφ] at hφ2; cases hφ2
      · simp at q1; exact q2 q1.symm
    rcases addR_inv g1 with ⟨rfl, rfl, rfl⟩ | k1 <;> rcases addR_inv g2 with ⟨e1, rfl, rfl⟩ | k2
    · exact absurd rfl hne
    · rw [hr]; exact (key k2 v2).symm
    · subst e1; rw [hr]; exact key k1 v1
    · exact hI.inj _ _ _ _ _ k1 k2 (he.live _ _ _ k1 v1) (he.live _ _ _ k2 v2) hne
  obj l' i' r' o2 h hc := by
    rcases addR_inv h with ⟨rfl, rfl, rfl⟩ | k
    · rw [hC'] at hc; simp at hc; subst hc; exact hok
    · have hne : ¬ (l' = l ∧ i' = i2) := by rintro ⟨rfl, rfl⟩; rw [hφ2] at k; cases k
      rw [hC', if_neg hne] at hc
      split at hc
      · cases hc; trivial
      · rename_i hq
        by_cases hd : o2 = .dead
        · subst hd; trivial
        · exact (hI.obj l' i' r' o2 k hc).ext he (hoth _ (other_blk hI hφ ⟨o, hC, hod⟩ k ⟨o2, hc, hd⟩ hq))
end
end AM
/- The operations that make an object. -/
namespace AM
open Go

/-- What an operation does. -/
def Does (T : Nat) (C : Cont) (φ : Refs) (w : World) (h' : Heap) (r : Result Next) (d : D) : Prop :=
  ∃ v w' φ', Gives r v w' ∧ Rep φ' w' v d ∧ Ext T C φ w (getO T h') φ' w' ∧ Inv φ' w' T (getO T h') ∧ h'.length = T

section
variable {φ : Refs} {w w' : World} {a : Act} {ρ : Env} {P : Program} {bar T : Nat} {h h' : Heap} {d : D}

theorem Pure1.does {r : Result Next} (hp : Pure1 φ w r d) (hI : Inv φ w T (getO T h)) (hl : h.length = T) : Does T (getO T h) φ w h r d :=
  let ⟨v, g1, g2⟩ := hp
  ⟨v, w, φ, g1, g2, Ext.refl _ _ _ _, hI, hl⟩

theorem newO_eq {l : Nat} {o : Obj} {mk : Nat → D} (hl : h.length = T) (hs : newO T h l o mk = some (d, h')) :
    ∃ i, d = mk i ∧ h'.length = T ∧ l < T ∧ getO T h l i = none ∧ ∀ l' i', getO T h' l' i' = if l' = l ∧ i' = i then some o else getO T h l' i' := by
  obtain ⟨p, h1, h2⟩ := bnd_eq hs
  obtain ⟨i, hp⟩ := p
  obtain ⟨rfl, rfl⟩ := some_pair h2
  obtain ⟨g1, g2, g3, g4, _⟩ := pushO_spec h T l o i hp hl h1
  exact ⟨i, rfl, g1, g2, (g3 i).2 (Nat.le_refl i), g4⟩

theorem newO_does {l : Nat} {o : Obj} {mk : Nat → D} {res : Result Next} {ob : Go.Obj} {v : Value} {r : Ref} (hI : Inv φ w T (getO T h)) (hl : h.length = T) (hF : Fresh T φ (getO T h) (getO T h'))
    (hs : newO T h l o mk = some (d, h')) (hrun : res = .ok (.value v) w') (h1 : w'.os = w.os) (h2 : w'.tape = w.tape) (h3 : w'.output = w.output) (hw : w'.heap = w.heap.push ob) (hr : r.blk = w.heap.size)
    (hok : ∀ φ' C', l < T → Ext T (getO T h) φ w C' φ' w' → ObjOk φ' w' l r o) (hrep : ∀ φ' i, φ' l i = some r → Rep φ' w' v (mk i)) : Does T (getO T h) φ w h' res d := by
  obtain ⟨i, rfl, g1, g2, g3, g4⟩ := newO_eq hl hs
  have hφ : φ l i = none := hF l i g2 g3 (by rw [g4]; simp)
  have he := alloc_ext (T := T) (o := o) hφ g3 g4 h1 h2 h3 hw hr
  exact ⟨v, w', addR φ l i r, .inl hrun, hrep _ _ addR_same, he, alloc_inv hI g2 hφ g4 hw hr he (hok _ _ g2 he), g1⟩

/-- The cells of elements. -/
def RowEs (φ : Refs) (w : World) (f : Nat → Option Value) (sz : Nat) (es : List (List D)) : Prop :=
  (∀ cs ∈ es, cs.length = sz) ∧ (∀ cs ∈ es, ∀ d ∈ cs, d.one = true) ∧ ∀ (e : Nat) (cs : List D) (j : Nat) (d : D), es[e]? = some cs → cs[j]? = some d → ∃ v, f (e * sz + j) = some v ∧ Rep φ w v d

theorem RowEs.ok {φ' : Refs} {l : Nat} {r : Ref} {es : List (List D)} {c : Array Value} {ty : TypeId} {C C' : Cont} (hr : RowEs φ w (fun k => c[r.base + k]?) r.size es) (hw : w'.heap[r.blk]? = some (.cells c ty (0, 0))) (h1 : r.base + r.cap * r.size ≤ c.size)
    (h2 : es.length ≤ r.cap) (h3 : lvlEs es ≤ l + 1) (he : Ext T C φ w C' φ' w') : ObjOk φ' w' l r (.arr es) :=
  ⟨c, ty, hw, h1, h2, h3, hr.1, hr.2.1, fun e cs j d g1 g2 => let ⟨v, f1, f2⟩ := hr.2.2 e cs j d g1 g2; ⟨v, f1, he.rep f2⟩⟩

theorem alloc_heap (w : World) (o : Go.Obj) : (w.alloc o).heap[w.heap.size]? = some o := by show (w.heap.push o)[w.heap.size]? = some o; simp

theorem newVar_run {t : TypeId} {v : Value} : (newVar t v).run P w = .ok ⟨w.heap.size, 0, none⟩ (w.alloc (.cells v.cells t)) := by
  simp only [newVar, newRow, Sem.run_bind, run_newObj, Result.andThen_ok, Sem.run_pure]; rfl

/-- A variable. -/
theorem newVar_does {t : TypeId} {v : Value} {e : D} {res : Result Next} {z : List D} (hI : Inv φ w T (getO T h)) (hl : h.length = T) (hF : Fresh T φ (getO T h) (getO T h')) (hv : Rep φ w v e) (hst : e.stb = true) (hz : z = e.cells) (hlv : e.lvl ≤ T)
    (hs : newO T h (T - 1) (.arr [z]) (fun i => .ptr (T - 1) i 0 0) = some (d, h')) (hrun : res = .ok (.value (.pointer (some ⟨w.heap.size, 0, none⟩))) (w.alloc (.cells v.cells t))) : Does T (getO T h) φ w h' res d := by
  subst hz
  obtain ⟨c1, c2, c3⟩ := hv.cells hst
  refine newO_does (r := ⟨w.heap.size, 0, e.cells.length, 1⟩) hI hl hF hs hrun rfl rfl rfl rfl rfl (fun φ' C' hlt he => ?_) (fun φ' i hφ => ?_)
  · refine RowEs.ok (φ := φ) (w := w) ⟨by simp, by simpa using c2, fun k cs j d g1 g2 => ?_⟩ (alloc_heap w _) (by simp; omega) (by simp) ?_ he
    · cases k with
      | zero =>
        simp at g1; subst g1
        have hj : j < v.cells.size := by
          rw [c1]
          rcases Nat.lt_or_ge j e.cells.length with h | h
          · exact h
          · rw [List.getElem?_eq_none h] at g2; cases g2
        exact ⟨v.cells[j], by simp [hj], c3 j _ d (by simp [hj]) g2⟩
      | succ k => simp at g1
    · exact lvlEs_le.2 fun cs hcs => by
        simp at hcs; subst hcs
        exact lvl_cells.2 (by omega)
  · have := Rep.ptr (φ := φ') (w := w.alloc (.cells v.cells t)) (T - 1) i 0 0 _ hφ
    simpa using this

theorem lvlAll_zero {ds : List D} : D.lvl.lvlAll ds = 0 ↔ ∀ d ∈ ds, d.lvl = 0 := by
  constructor
  · intro h d hd
    have := lvlAll_le.1 (Nat.le_of_eq h) d hd; omega
  · intro h
    exact Nat.le_zero.1 (lvlAll_le.2 fun d hd => Nat.le_of_eq (h d hd))

/-- What a type's zero value is laid as. -/
theorem zeroCells_run {t : TypeId} {z : List D} (h : zeroCellsT P t = some z) : ∃ v, (zeroValue t).run P w = .ok v w ∧ v.cells.size = z.length ∧ (∀ e ∈ z, e.one = true) ∧
    (∀ (i : Nat) (u : Value) (e : D), v.cells[i]? = some u → z[i]? = some e → Rep φ w u e) ∧ D.lvl.lvlAll z = 0 ∧ ∃ i, P.info? t = some i ∧ i.zero = some v := by
  obtain ⟨zd, h1, rfl⟩ := Option.map_eq_some_iff.1 h
  obtain ⟨v, g1, g2, g3, g4, g5⟩ := zeroT_run (φ := φ) (w := w) h1
  obtain ⟨c1, c2, c3⟩ := g2.cells g3
  exact ⟨v, g1, c1, c2, c3, Nat.le_zero.1 (lvl_cells.2 (by omega)), g5⟩

theorem madeCells_at {z : Array Value} {sz n e j : Nat} (hz : z.size = sz) (hj : j < sz) (he : e < n) : (madeCells z (n * sz))[e * sz + j]? = z[j]? := by
  have h1 : e * sz + j < n * sz := by
    have : (e + 1) * sz ≤ n * sz := Nat.mul_le_mul_right _ he
    rw [Nat.add_mul] at this; omega
  have h2 : (e * sz + j) % z.size = j := by rw [hz, Nat.mul_comm, Nat.mul_add_mod, Nat.mod_eq_of_lt hj]
  have h3 : j < z.size := by omega
  simp [madeCells, h1, h2, h3]

theorem made_row {v : Value} {z : List D} {n : Nat} (h1 : v.cells.size = z.length) (h2 : ∀ e ∈ z, e.one = true) (h3 : ∀ (i : Nat) (u : Value) (e : D), v.cells[i]? = some u → z[i]? = some e → Rep φ w u e) :
    RowEs φ w (fun k => (madeCells v.cells (n * z.length))[0 + k]?) z.length (List.replicate n z) := by
  refine ⟨fun cs hcs => by rw [List.eq_of_mem_replicate hcs], fun cs hcs => by rw [List.eq_of_mem_replicate hcs]; exact h2, fun e cs j d g1 g2 => ?_⟩
  have he : e < n := by
    rcases Nat.lt_or_ge e n with h | h
    · exact h
    · rw [List.getElem?_eq_none (by simpa using h)] at g1; cases g1
  rw [List.getElem?_replicate, if_pos he] at g1
  cases g1
  have hj : j < z.length := by
    rcases Nat.lt_or_ge j z.length with h | h
    · exact h
    · rw [List.getElem?_eq_none h] at g2; cases g2
  refine ⟨v.cells[j]'(by omega), ?_, h3 j _ d (by simp [h1, hj]) g2⟩
  show (madeCells v.cells (n * z.length))[0 + (e * z.length + j)]? = _
  rw [Nat.zero_add, madeCells_at h1 hj he]
  simp [h1, hj]

/-- Parts of a slice: where they are laid. -/
theorem fillEs_run {sz : Nat} : ∀ {ps : List (Nat × Operand)} {qs : List (Nat × Nat × Opd)} {cs : Array Value} {es r : List (List D)},
    cParts (fun i => some (i, 0)) ps = some qs → EnvR φ w a ρ → fillEs ρ sz (qs.map fun (i, _, x) => (i, x)) es = some r → cs.size = es.length * sz → RowEs φ w (fun k => cs[k]?) sz es →
    ∃ cs', Instr.fill (fun i => some (i * sz, sz)) cs (ps.map fun p => (p.1, a.eval p.2)) = some cs' ∧ RowEs φ w (fun k => cs'[k]?) sz r ∧ cs'.size = cs.size ∧ r.length = es.length
  | [], qs, cs, es, r, hq, _, hf, hsz, hr => by
    simp only [cParts, Option.some.injEq] at hq; subst hq
    simp only [List.map_nil, fillEs, Option.some.injEq] at hf; subst hf
    exact ⟨cs, rfl, hr, rfl, rfl⟩
  | (i, x) :: ps, qs, cs, es, r, hq, he, hf, hsz, hr => by
    simp only [cParts] at hq
    split at hq
    · rename_i off sz' y ys q1 q2 q3
      simp only [Option.some.injEq] at hq q1; subst hq
      cases q1
      simp only [List.map_cons, fillEs] at hf
      obtain ⟨d, h1, hf⟩ := bnd_eq hf
      obtain ⟨hc, hf⟩ := brk_none hf
      simp only [Bool.and_eq_true, decide_eq_true_eq] at hc
      obtain ⟨hst, hdl, hi⟩ := hc
      have hv := opd_rep q2 h1 he
      obtain ⟨c1, c2, c3⟩ := hv.cells hst
      have hb : i * sz + sz ≤ cs.size := by
        rw [hsz]
        have : (i + 1) * sz ≤ es.length * sz := Nat.mul_le_mul_right _ hi
        rw [Nat.add_mul] at this; omega
      have hfold := fillFold (i * sz) (a.eval x).cells.toList 0 cs (by simp; omega)
      have hput : ∃ cs1, ((a.eval x).cells.zipIdx.foldl (fun cs (c, j) => cs.setIfInBounds (i * sz + j) c) cs) = cs1 ∧ cs1.toList = cs.toList.take (i * sz) ++ (a.eval x).cells.toList ++ cs.toList.drop (i * sz + (a.eval x).cells.size) := by
        refine ⟨_, rfl, ?_⟩
        rw [← Array.foldl_toList, Array.toList_zipIdx]
        simpa using hfold
      obtain ⟨cs1, e1, e2⟩ := hput
      have hsz1 : cs1.size = cs.size := by
        have := congrArg List.length e2
        simp at this
        omega
      have hat : ∀ k, cs1[k]? = if i * sz ≤ k ∧ k < i * sz + sz then (a.eval x).cells[k - i * sz]? else cs[k]? := by
        intro k
        rw [← Array.getElem?_toList, e2]
        rcases Nat.lt_or_ge k (i * sz) with hk | hk
        · rw [if_neg (by omega), List.append_assoc, List.getElem?_append_left (by simp; omega), List.getElem?_take_of_lt hk, Array.getElem?_toList]
        · rcases Nat.lt_or_ge k (i * sz + sz) with hk2 | hk2
          · rw [if_pos ⟨hk, hk2⟩, List.append_assoc, List.getElem?_append_right (by simp; omega), List.getElem?_append_left (by simp; omega)]
            simp only [List.length_take, Array.length_toList]
            rw [Nat.min_eq_left (by omega), Array.getElem?_toList]
          · rw [if_neg (by omega), List.getElem?_append_right (by simp; omega), List.getElem?_drop]
            simp only [List.length_append, List.length_take, Array.length_toList]
            rw [Nat.min_eq_left (by omega), Array.getElem?_toList]
            congr 1; omega
      obtain ⟨r1, r2, r3⟩ := hr
      have hr1 : RowEs φ w (fun k => cs1[k]?) sz (es.set i d.cells) := by
        refine ⟨fun c hc => ?_, fun c hc => ?_, fun e c j u g1 g2 => ?_⟩
        · rcases List.mem_or_eq_of_mem_set hc with h | h
          · exact r1 c h
          · rw [h]; exact hdl
        · rcases List.mem_or_eq_of_mem_set hc with h | h
          · exact r2 c h
          · rw [h]; exact c2
        · rw [List.getElem?_set] at g1
          have hjl : ∀ {c : List D}, c.length = sz → c[j]? = some u → j < sz := by
            intro c h1 h2
            rcases Nat.lt_or_ge j c.length with h | h
            · omega
            · rw [List.getElem?_eq_none h] at h2; cases h2
          by_cases hie : i = e
          · subst hie
            simp only [if_true, hi] at g1
            cases g1
            have hj := hjl hdl g2
            refine ⟨(a.eval x).cells[j]'(by omega), ?_, c3 j _ u (by simp [c1, hdl, hj]) g2⟩
            simp only [hat]
            rw [if_pos ⟨by omega, by omega⟩, Nat.add_sub_cancel_left]
            simp [c1, hdl, hj]
          · simp only [hie, if_false] at g1
            have hj := hjl (r1 c (List.mem_of_getElem? g1)) g2
            obtain ⟨v, f1, f2⟩ := r3 e c j u g1 g2
            refine ⟨v, ?_, f2⟩
            simp only [hat]
            rw [if_neg]
            · exact f1
            rintro ⟨k1, k2⟩
            rcases Nat.lt_or_ge e i with hlt | hge
            · have : (e + 1) * sz ≤ i * sz := Nat.mul_le_mul_right _ hlt
              rw [Nat.add_mul] at this; omega
            · have : (i + 1) * sz ≤ e * sz := Nat.mul_le_mul_right _ (by omega)
              rw [Nat.add_mul] at this; omega
      obtain ⟨cs', f1, f2, f3, f4⟩ := fillEs_run (cs := cs1) q3 he hf (by rw [hsz1, hsz, List.length_set]) hr1
      refine ⟨cs', ?_, f2, by omega, by rw [f4, List.length_set]⟩
      simp only [List.map_cons, Instr.fill]
      have hif : ¬ (decide ((a.eval x).cells.size ≠ sz) || decide (i * sz + (a.eval x).cells.size > cs.size)) = true := by
        simp only [Bool.or_eq_true, decide_eq_true_eq]; omega
      rw [if_neg hif, e1]
      exact f1
    · cases hq
end
end AM
/- Every operation that makes an object and changes none. -/
namespace AM
open Go

def isAlloc : AOp → Bool
  | .box .. | .alloc .. | .bsl .. | .mksl .. | .mkm => true
  | _ => false

section
variable {φ : Refs} {w w' : World} {a : Act} {ρ : Env} {P : Program} {bar T : Nat} {h h' : Heap} {d : D}

theorem lvlEs_zero {es : List (List D)} : (∀ cs ∈ es, D.lvl.lvlAll cs = 0) → lvlEs es = 0 := fun h => Nat.le_zero.1 (lvlEs_le.2 fun cs hcs => Nat.le_of_eq (h cs hcs))

theorem alloc_sim {o : Oper} {x : AOp} (hc : cOp P o.op = some x) (hp : isAlloc x = true) (hs : step bar T x ρ h = some (d, h')) (he : EnvR φ w a ρ) (hI : Inv φ w T (getO T h)) (hl : h.length = T) (hF : Fresh T φ (getO T h) (getO T h')) :
    Does T (getO T h) φ w h' ((execOp a.eval o).run P w) d := by
  obtain ⟨dst, op, ty, pos, after, guard⟩ := o
  simp only at hc
  have hnp := cOp_np hc (by cases x <;> first | rfl | cases hp)
  cases hnp <;> first | (cases hp; done) | skip
  case alloc t z hz =>
    simp only [step] at hs
    obtain ⟨zd, h1, rfl⟩ := Option.map_eq_some_iff.1 hz
    obtain ⟨v, g1, g2, g3, g4, _⟩ := zeroT_run (φ := φ) (w := w) h1
    refine newVar_does (t := t) hI hl hF g2 g3 rfl (by omega) hs ?_
    simp only [execOp, Instr.alloc, Sem.run_bind, g1, newVar_run, Result.andThen_ok, Sem.run_pure]
  case box t x1 y hy =>
    simp only [step] at hs
    obtain ⟨e, h1, hs⟩ := bnd_eq hs
    obtain ⟨hq, hs⟩ := brk_none hs
    simp only [Bool.and_eq_true, decide_eq_true_eq] at hq
    refine newVar_does (t := t) hI hl hF (opd_rep hy h1 he) hq.1 rfl hq.2 hs ?_
    simp only [execOp, Instr.box, Sem.run_bind, newVar_run, Result.andThen_ok, Sem.run_pure]
  case mkm t =>
    simp only [step] at hs
    refine newO_does (v := .map (some w.heap.size)) (r := ⟨w.heap.size, 0, 0, 0⟩) (w' := w.alloc (.map #[] 0)) hI hl hF hs ?_ rfl rfl rfl rfl rfl (fun φ' C' _ _ => ?_) (fun φ' i hφ => ?_)
    · simp only [execOp, Instr.makeMap, Sem.run_bind, Option.map_none, Sem.run_pure, Result.andThen_ok, run_newObj]
      rfl
    · exact ⟨#[], 0, alloc_heap w _, rfl, by simp, by simp⟩
    · exact .map _ _ _ hφ
  case mksl t e l c l' c' b z hu hz h0 hb hl1 hc1 =>
    simp only [step] at hs
    obtain ⟨e1, h1, hs⟩ := bnd_eq hs
    obtain ⟨n, h2, hs⟩ := bnd_eq hs
    obtain ⟨e2, h3, hs⟩ := bnd_eq hs
    obtain ⟨m, h4, hs⟩ := bnd_eq hs
    unfold mkslD at hs
    obtain ⟨hq, hs⟩ := brk_none hs
    simp only [decide_eq_true_eq] at hq
    obtain ⟨q1, q2, q3, q4⟩ := hq
    obtain ⟨k1, hv1, _⟩ := (opd_rep hl1 h1 he).asI_inv h2
    obtain ⟨k2, hv2, _⟩ := (opd_rep hc1 h3 he).asI_inv h4
    obtain ⟨v, g1, g2, g3, g4, g5, i, g6, g7⟩ := zeroCells_run (φ := φ) (w := w) hz
    obtain ⟨i', g8, g9⟩ := bytesT_run hb
    rw [g6] at g8; cases g8
    have hsz : i.size = z.length := by
      have : sizeT P e = some z.length := by
        by_cases hq : sizeT P e = some z.length
        · exact hq
        · exact absurd (Or.inr hq) h0
      simpa [sizeT, g6] using this
    have hrun := run_make (P := P) w t e i v hu g6 g7 k1 k2 n m q1 q2 (by rw [g9, Int.mul_comm]; omega) q4
    rw [hsz] at hrun
    have hex : (execOp a.eval ⟨dst, .makeSlice t l c, ty, pos, after, guard⟩).run P w = .ok (.value (.slice (some ⟨w.heap.size, 0, none⟩) n.toNat m.toNat)) (w.alloc (.cells (madeCells v.cells (m.toNat * z.length)) e)) := by
      simp only [execOp, Sem.run_bind, hv1, hv2, hrun, Result.andThen_ok, Sem.run_pure]
    rcases brk_eq hs with ⟨hq, hs1⟩ | ⟨_, hs1⟩
    · simp only [decide_eq_true_eq] at hq; subst hq
      refine newO_does (r := ⟨w.heap.size, 0, z.length, n.toNat⟩) hI hl hF hs1 hex rfl rfl rfl rfl rfl (fun φ' C' hlt he' => ?_) (fun φ' k hφ => ?_)
      · refine RowEs.ok (φ := φ) (w := w) (made_row g2 g3 g4) (alloc_heap w _) (by simp [size_madeCells]) (by simp) ?_ he'
        rw [lvlEs_zero (fun cs hcs => by rw [List.eq_of_mem_replicate hcs]; exact g5)]; omega
      · exact .own _ _ 0 _ _ _ false _ _ hφ rfl (by simp) (by simp) (Nat.le_refl _) (by simp)
    · obtain ⟨hq, hs2⟩ := brk_none hs1
      simp only [decide_eq_true_eq] at hq; subst hq
      refine newO_does (r := ⟨w.heap.size, 0, z.length, m.toNat⟩) hI hl hF hs2 hex rfl rfl rfl rfl rfl (fun φ' C' hlt he' => ?_) (fun φ' k hφ => ?_)
      · refine RowEs.ok (φ := φ) (w := w) ⟨by simp, by simp, by simp⟩ (alloc_heap w _) (by simp [size_madeCells]) (by simp) (by simp [lvlEs]) he'
      · exact .own _ _ 0 0 _ _ false _ _ hφ rfl (by simp) (by simp) (by simp) (by simp)
  case bsl t e len ps z qs hu hz h0 hq =>
    simp only [step] at hs
    obtain ⟨es, h1, hs⟩ := bnd_eq hs
    obtain ⟨hb, hs⟩ := brk_none hs
    simp only [decide_eq_true_eq] at hb
    obtain ⟨v, g1, g2, g3, g4, g5, i, g6, g7⟩ := zeroCells_run (φ := φ) (w := w) hz
    have hsT : sizeT P e = some z.length := by
      by_cases hq : sizeT P e = some z.length
      · exact hq
      · exact absurd (Or.inr hq) h0
    have hz0 : z.length ≠ 0 := fun h => h0 (.inl h)
    have hrow := made_row (φ := φ) (w := w) (n := len) g2 g3 g4
    simp only [Nat.zero_add] at hrow
    obtain ⟨cs', f1, f2, f3, f4⟩ := fillEs_run hq he h1 (by simp [size_madeCells]) hrow
    rw [size_madeCells] at f3
    rw [List.length_replicate] at f4
    have hex : (execOp a.eval ⟨dst, .buildSlice t len ps, ty, pos, after, guard⟩).run P w = .ok (.value (.slice (some ⟨w.heap.size, 0, none⟩) len len)) (w.alloc (.cells cs' e)) := by
      have hnot : ¬ (len * z.length > 2 ^ 24) := by omega
      have hmap : (ps.map fun (i, x) => (i, a.eval x)).toList = ps.toList.map fun p => (p.1, a.eval p.2) := Array.toList_map
      simp only [execOp, Instr.buildSlice, Sem.run_bind, underlying_run hu, Result.andThen_ok, sizeT_run hsT, hnot, if_false, hmap]
      by_cases hzz : len * z.length = 0
      · have hm : (Array.range (len * z.length)).map (fun x => (#[] : Array Value)[x % (#[] : Array Value).size]!) = madeCells v.cells (len * z.length) := by simp [hzz, madeCells]
        rw [if_pos hzz]
        simp only [Sem.run_bind, Sem.run_pure, Result.andThen_ok, hm, f1, newRow, run_newObj]
        rfl
      · have hm : (Array.range (len * z.length)).map (fun x => v.cells[x % v.cells.size]!) = madeCells v.cells (len * z.length) := rfl
        rw [if_neg hzz]
        simp only [Sem.run_bind, g1, Sem.run_pure, Result.andThen_ok, hm, f1, newRow, run_newObj]
        rfl
    refine newO_does (r := ⟨w.heap.size, 0, z.length, len⟩) hI hl hF hs hex rfl rfl rfl rfl rfl (fun φ' C' hlt he' => ?_) (fun φ' k hφ => ?_)
    · refine RowEs.ok (φ := φ) (w := w) (by simpa using f2) (alloc_heap w _) (by simp; omega) (by simp; omega) (by omega) he'
    · exact .own _ _ 0 _ _ _ false _ _ hφ rfl (by simp) (by simp) (Nat.le_refl _) (by simp)
end
end AM
/- Storing and appending. -/
namespace AM
open Go

section
variable {φ : Refs} {w w' : World} {a : Act} {ρ : Env} {P : Program} {bar T : Nat} {h h' : Heap} {d : D}

theorem put_at {α : Type} (cs new : List α) (o k : Nat) (hb : o + new.length ≤ cs.length) : (cs.take o ++ new ++ cs.drop (o + new.length))[k]? = if o ≤ k ∧ k < o + new.length then new[k - o]? else cs[k]? := by
  rcases Nat.lt_or_ge k o with hk | hk
  · rw [if_neg (by omega), List.append_assoc, List.getElem?_append_left (by simp; omega), List.getElem?_take_of_lt hk]
  · rcases Nat.lt_or_ge k (o + new.length) with hk2 | hk2
    · rw [if_pos ⟨hk, hk2⟩, List.append_assoc, List.getElem?_append_right (by simp; omega), List.getElem?_append_left (by simp; omega)]
      simp only [List.length_take]
      rw [Nat.min_eq_left (by omega)]
    · rw [if_neg (by omega), List.getElem?_append_right (by simp; omega), List.getElem?_drop]
      simp only [List.length_append, List.length_take]
      rw [Nat.min_eq_left (by omega)]
      congr 1; omega

theorem lt_of_at {α : Type} {l : List α} {i : Nat} {x : α} (h : l[i]? = some x) : i < l.length := by
  rcases Nat.lt_or_ge i l.length with h1 | h1
  · exact h1
  · rw [List.getElem?_eq_none h1] at h; cases h

/-- Another row of elements is laid over a row. -/
theorem RowEs.put {f g : Nat → Option Value} {sz m : Nat} {es new : List (List D)} {news : List Value} (h1 : RowEs φ w f sz es) (h2 : RowEs φ w (fun k => news[k]?) sz new) (hn : news.length = new.length * sz) (hm : m ≤ es.length)
    (hg : ∀ k, g k = if m * sz ≤ k ∧ k < m * sz + news.length then news[k - m * sz]? else f k) : RowEs φ w g sz (es.take m ++ new ++ es.drop (m + new.length)) := by
  obtain ⟨a1, a2, a3⟩ := h1
  obtain ⟨b1, b2, b3⟩ := h2
  refine ⟨fun cs hcs => ?_, fun cs hcs => ?_, fun e cs j d g1 g2 => ?_⟩
  · simp only [List.mem_append] at hcs
    rcases hcs with (h | h) | h
    · exact a1 cs (List.mem_of_mem_take h)
    · exact b1 cs h
    · exact a1 cs (List.mem_of_mem_drop h)
  · simp only [List.mem_append] at hcs
    rcases hcs with (h | h) | h
    · exact a2 cs (List.mem_of_mem_take h)
    · exact b2 cs h
    · exact a2 cs (List.mem_of_mem_drop h)
  · rcases Nat.lt_or_ge e m with hk | hk
    · rw [List.append_assoc, List.getElem?_append_left (by simp; omega), List.getElem?_take_of_lt hk] at g1
      have hj := lt_of_at g2
      rw [a1 cs (List.mem_of_getElem? g1)] at hj
      have : (e + 1) * sz ≤ m * sz := Nat.mul_le_mul_right _ hk
      rw [Nat.add_mul] at this
      rw [hg, if_neg (by omega)]
      exact a3 e cs j d g1 g2
    · rcases Nat.lt_or_ge e (m + new.length) with hk2 | hk2
      · rw [List.append_assoc, List.getElem?_append_right (by simp; omega), List.getElem?_append_left (by simp; omega)] at g1
        simp only [List.length_take] at g1
        rw [Nat.min_eq_left (by omega)] at g1
        have hj := lt_of_at g2
        rw [b1 cs (List.mem_of_getElem? g1)] at hj
        have e1 : e * sz = m * sz + (e - m) * sz := by rw [← Nat.add_mul]; congr 1; omega
        have e2 : (e - m + 1) * sz ≤ new.length * sz := Nat.mul_le_mul_right _ (by omega)
        rw [Nat.add_mul] at e2
        rw [hg, if_pos (by omega)]
        have := b3 (e - m) cs j d g1 g2
        rwa [show e * sz + j - m * sz = (e - m) * sz + j by omega]
      · rw [List.getElem?_append_right (by simp; omega), List.getElem?_drop] at g1
        simp only [List.length_append, List.length_take] at g1
        rw [Nat.min_eq_left (by omega)] at g1
        rw [show m + new.length + (e - (m + new.length)) = e by omega] at g1
        have : (m + new.length) * sz ≤ e * sz := Nat.mul_le_mul_right _ hk2
        rw [Nat.add_mul] at this
        rw [hg, if_neg (by omega)]
        exact a3 e cs j d g1 g2

theorem RowEs.drop {f : Nat → Option Value} {sz : Nat} {es : List (List D)} (h1 : RowEs φ w f sz es) (m : Nat) : RowEs φ w (fun k => f (m * sz + k)) sz (es.drop m) := by
  obtain ⟨a1, a2, a3⟩ := h1
  refine ⟨fun cs hcs => a1 cs (List.mem_of_mem_drop hcs), fun cs hcs => a2 cs (List.mem_of_mem_drop hcs), fun e cs j d g1 g2 => ?_⟩
  rw [List.getElem?_drop] at g1
  have := a3 (m + e) cs j d g1 g2
  rw [Nat.add_mul, Nat.add_assoc] at this
  exact this

theorem RowEs.app {xs ys zs : List Value} {sz : Nat} {es new : List (List D)} (h1 : RowEs φ w (fun k => xs[k]?) sz es) (h2 : RowEs φ w (fun k => ys[k]?) sz new) (e1 : xs.length = es.length * sz) (e2 : ys.length = new.length * sz) :
    RowEs φ w (fun k => (xs ++ ys ++ zs)[k]?) sz (es ++ new) := by
  obtain ⟨a1, a2, a3⟩ := h1
  obtain ⟨b1, b2, b3⟩ := h2
  refine ⟨fun cs hcs => ?_, fun cs hcs => ?_, fun e cs j d g1 g2 => ?_⟩
  · rcases List.mem_append.1 hcs with h | h
    · exact a1 cs h
    · exact b1 cs h
  · rcases List.mem_append.1 hcs with h | h
    · exact a2 cs h
    · exact b2 cs h
  · rcases Nat.lt_or_ge e es.length with hk | hk
    · rw [List.getElem?_append_left hk] at g1
      have hj := lt_of_at g2
      rw [a1 cs (List.mem_of_getElem? g1)] at hj
      have : (e + 1) * sz ≤ es.length * sz := Nat.mul_le_mul_right _ hk
      rw [Nat.add_mul] at this
      obtain ⟨v, f1, f2⟩ := a3 e cs j d g1 g2
      refine ⟨v, ?_, f2⟩
      show (xs ++ ys ++ zs)[e * sz + j]? = some v
      rw [List.append_assoc, List.getElem?_append_left (by omega)]; exact f1
    · rw [List.getElem?_append_right hk] at g1
      have hj := lt_of_at g2
      rw [b1 cs (List.mem_of_getElem? g1)] at hj
      have hlt := lt_of_at g1
      have e1 : e * sz = es.length * sz + (e - es.length) * sz := by rw [← Nat.add_mul]; congr 1; omega
      have e2 : (e - es.length + 1) * sz ≤ new.length * sz := Nat.mul_le_mul_right _ hlt
      rw [Nat.add_mul] at e2
      obtain ⟨v, f1, f2⟩ := b3 (e - es.length) cs j d g1 g2
      refine ⟨v, ?_, f2⟩
      show (xs ++ ys ++ zs)[e * sz + j]? = some v
      rw [List.append_assoc, List.getElem?_append_right (by omega), List.getElem?_append_left (by omega), show e * sz + j - xs.length = (e - es.length) * sz + j by omega]
      exact f1

/-- The elements of a slice, as what is appended. -/
theorem elems_src {y : D} {u : Value} {es : List (List D)} {tx e' : TypeId} {sz : Nat} (hk : P.underlying tx = some (.slice e')) (hi : Inv φ w T (getO T h)) (hu : Rep φ w u y) (he : elems T h y = some es) (hrow : rowsOk sz es = true) (hsz : sz ≠ 0) :
    ∃ news, Src P sz tx u es.length news w ∧ RowEs φ w (fun k => news[k]?) sz es := by
  rcases elems_cells hi hu he with ⟨rfl, ad, cap, rfl⟩ | ⟨b, o, len, cap, sz', rfl, hl, hcap, h1, h2, h3⟩
  · refine ⟨[], ?_, by simp, by simp, by simp⟩
    cases ad with
    | none => exact Src.ofNil w hk cap
    | some ad => exact Src.ofSlice w hk ad 0 cap [] (by simp) (by simp) (by simp)
  · have hr := rowsOk_len hrow
    let f : Nat → Value := fun k => (w.cell? ⟨b, o + k, none⟩).getD undef
    have hcell : ∀ k, k < es.length * sz → ∃ v d, w.cell? ⟨b, o + k, none⟩ = some v ∧ Rep φ w v d ∧ d.one = true := by
      intro k hk
      have hpos : 0 < sz := Nat.pos_of_ne_zero hsz
      have he : k / sz < es.length := Nat.div_lt_of_lt_mul (by rw [Nat.mul_comm]; exact hk)
      have hm : k % sz < sz := Nat.mod_lt _ hpos
      have hc := List.getElem_mem he
      have hs' : sz' = sz := by rw [← h1 _ hc, hr _ hc]
      have hj : k % sz < (es[k / sz]).length := by rw [hr _ hc]; exact hm
      obtain ⟨v, g1, g2⟩ := h3 (k / sz) _ (k % sz) _ (List.getElem?_eq_getElem he) (List.getElem?_eq_getElem hj)
      rw [hs', Nat.mul_comm, Nat.div_add_mod] at g1
      exact ⟨v, _, g1, g2, h2 _ hc _ (List.getElem_mem hj)⟩
    have hf : ∀ (k : Nat) (v : Value), ((List.range (es.length * sz)).map f)[k]? = some v → k < es.length * sz ∧ w.cell? ⟨b, o + k, none⟩ = some v := by
      intro k v hv
      have hk := lt_of_at hv
      simp only [List.length_map, List.length_range] at hk
      obtain ⟨v', d, g1, _⟩ := hcell k hk
      rw [List.getElem?_map, List.getElem?_range hk] at hv
      simp only [Option.map_some, Option.some.injEq, f, g1, Option.getD_some] at hv
      subst hv; exact ⟨hk, g1⟩
    refine ⟨(List.range (es.length * sz)).map f, ?_, hr, h2, fun e cs j d g1 g2 => ?_⟩
    · subst hl
      refine Src.ofSlice w hk _ _ _ _ (by simp) (fun k v hv => ?_) (fun v hv => ?_)
      · rw [add_at]; exact (hf k v hv).2
      · obtain ⟨k, hv⟩ := List.mem_iff_getElem?.1 hv
        obtain ⟨q1, q2⟩ := hf k v hv
        obtain ⟨v', d, g1, g2, g3⟩ := hcell k q1
        rw [q2] at g1; cases g1
        exact g2.one_cell g3
    · have hs' : sz' = sz := by rw [← h1 _ (List.mem_of_getElem? g1), hr _ (List.mem_of_getElem? g1)]
      obtain ⟨v, f1, f2⟩ := h3 e cs j d g1 g2
      have hj := lt_of_at g2
      rw [hr cs (List.mem_of_getElem? g1)] at hj
      have hlt := lt_of_at g1
      have : (e + 1) * sz ≤ es.length * sz := Nat.mul_le_mul_right _ hlt
      rw [Nat.add_mul] at this
      refine ⟨v, ?_, f2⟩
      show ((List.range (es.length * sz)).map f)[e * sz + j]? = some v
      rw [List.getElem?_map, List.getElem?_range (by omega)]
      rw [hs'] at f1
      simp [f, f1]

/-- A string's bytes, as what is appended. -/
theorem chars_row (s : List UInt8) : RowEs φ w (fun k => (byteCells ⟨s.toArray⟩)[k]?) 1 (chars s) := by
  refine ⟨fun cs hcs => ?_, fun cs hcs => ?_, fun e cs j d g1 g2 => ?_⟩
  · obtain ⟨b, _, rfl⟩ := List.mem_map.1 hcs; rfl
  · obtain ⟨b, _, rfl⟩ := List.mem_map.1 hcs; intro d hd; simp at hd; subst hd; rfl
  · rw [chars, List.getElem?_map] at g1
    cases hb : s[e]? with
    | none => simp [hb] at g1
    | some b =>
      simp only [hb, Option.map_some, Option.some.injEq] at g1; subst g1
      cases j with
      | succ j => simp at g2
      | zero =>
        simp at g2; subst g2
        exact ⟨.int .u8 b.toNat, by simp [byteCells, hb], .int _ _⟩

/-- Storing into an element. -/
theorem st_sim {t : TypeId} {n : Nat} {p e : D} {u v : Value} {res : Result Next} (hn : sizeT P t = some n) (hI : Inv φ w T (getO T h)) (hl : h.length = T) (hu : Rep φ w u p) (hv : Rep φ w v e)
    (hs : stD bar T h n e p = some (d, h')) (hres : res = ((Instr.storeAt t u v).run P w).andThen fun _ w' => .ok .skip w') : Does T (getO T h) φ w h' res d := by
  unfold stD at hs
  split at hs
  · rename_i l i k j
    obtain ⟨o, h1, hs1⟩ := bnd_eq hs
    obtain ⟨es, h2, hs2⟩ := bnd_eq hs1
    obtain ⟨cs, h3, hs3⟩ := bnd_eq hs2
    obtain ⟨hq, hs4⟩ := brk_none hs3
    have := asArr_eq h2; subst this
    obtain ⟨rfl, rfl⟩ := some_pair hs4
    simp only [Bool.and_eq_true, decide_eq_true_eq, may] at hq
    obtain ⟨⟨hst, hbar, hlv⟩, hlen, hfit⟩ := hq
    cases hu with
    | ptr l i k j r hφ =>
      obtain ⟨c1, c2, c3⟩ := hv.cells hst
      obtain ⟨c, ty, g1, g2, g3, g4, g5, g6, g7⟩ := hI.obj l i r _ hφ h1
      have hk := lt_of_at h3
      have hcs := g5 cs (List.mem_of_getElem? h3)
      have hroom : r.base + (k * r.size + j) + v.cells.size ≤ c.size := by
        have : (k + 1) * r.size ≤ r.cap * r.size := Nat.mul_le_mul_right _ (by omega)
        rw [Nat.add_mul] at this; omega
      have hone : ∀ x ∈ v.cells.toList, x.oneCell' = true := by
        intro x hx
        obtain ⟨m, hm⟩ := List.mem_iff_getElem?.1 hx
        have hlt := lt_of_at hm
        rw [Array.getElem?_toList] at hm
        have hd : m < e.cells.length := by rw [← c1]; simpa using hlt
        exact (c3 m x _ hm (List.getElem?_eq_getElem hd)).one_cell (c2 _ (List.getElem_mem hd))
      have hrun := run_storeCells_at (P := P) r.blk (r.base + (k * r.size + j)) ty v.cells.toList 0 c w g1 (by simpa using hroom) hone
      simp only [Nat.add_zero, Array.length_toList] at hrun
      generalize hc1 : (c.toList.take (r.base + (k * r.size + j)) ++ v.cells.toList ++ c.toList.drop (r.base + (k * r.size + j) + v.cells.size)).toArray = nc at hrun
      have hat : ∀ m, nc[m]? = if r.base + (k * r.size + j) ≤ m ∧ m < r.base + (k * r.size + j) + v.cells.size then v.cells[m - (r.base + (k * r.size + j))]? else c[m]? := by
        intro m
        subst hc1
        have := put_at c.toList v.cells.toList (r.base + (k * r.size + j)) m (by simpa using hroom)
        simpa using this
      have hncs : nc.size = c.size := by subst hc1; simp; omega
      have hC' := getO_setO (.arr (es.set k (putCells cs j e.cells))) hl (i := i) (l := l) (h := h)
      have hw := setRow_heap w r.blk c nc ty (0, 0) g1
      have he := store_ext (T := T) (w := w) (w' := w.setRow r.blk nc) (o' := .arr (es.set k (putCells cs j e.cells))) hφ h1 (by simp) (fun l' i' => hC' l' i' (by rw [h1]; rfl)) rfl rfl rfl (by simp) (fun b hb => setRow_other w r.blk b nc hb)
      have hrunA : (Instr.storeAt t (.pointer (some ⟨r.blk, r.base + (k * r.size + j), none⟩)) v).run P w = .ok () (w.setRow r.blk nc) := by
        have hsz : ¬ (v.cells.size ≠ n) := by omega
        simp only [Instr.storeAt, Instr.sureAddr, pure_bind, storeVar, Sem.run_bind, sizeT_run hn, Result.andThen_ok, hsz, if_false, hrun]
      refine ⟨undef, w.setRow r.blk nc, φ, .inr ⟨by rw [hres, hrunA]; rfl, rfl⟩, .undef, he, ?_, by rw [setO_length, hl]⟩
      refine store_inv hI hφ h1 (by simp) (fun l' i' => hC' l' i' (by rw [h1]; rfl)) (by simp) (fun b hb => setRow_other w r.blk b nc hb) he ?_
      have hpl : (putCells cs j e.cells).length = r.size := by simp [putCells]; omega
      have hpo : ∀ d ∈ putCells cs j e.cells, d.one = true := by
        intro d hd
        simp only [putCells, List.mem_append] at hd
        rcases hd with (hd | hd) | hd
        · exact g6 cs (List.mem_of_getElem? h3) d (List.mem_of_mem_take hd)
        · exact c2 d hd
        · exact g6 cs (List.mem_of_getElem? h3) d (List.mem_of_mem_drop hd)
      refine ⟨nc, ty, hw, by omega, by simpa using g3, ?_, fun x hx => ?_, fun x hx => ?_, fun m x q y hx hy => ?_⟩
      · refine lvlEs_le.2 fun x hx => ?_
        rcases List.mem_or_eq_of_mem_set hx with hx | rfl
        · exact lvlEs_le.1 g4 x hx
        · refine lvlAll_le.2 fun y hy => ?_
          simp only [putCells, List.mem_append] at hy
          rcases hy with (hy | hy) | hy
          · exact lvlAll_le.1 (lvlEs_le.1 g4 cs (List.mem_of_getElem? h3)) y (List.mem_of_mem_take hy)
          · exact lvlAll_le.1 (lvl_cells.2 hlv) y hy
          · exact lvlAll_le.1 (lvlEs_le.1 g4 cs (List.mem_of_getElem? h3)) y (List.mem_of_mem_drop hy)
      · rcases List.mem_or_eq_of_mem_set hx with hx | rfl
        · exact g5 x hx
        · exact hpl
      · rcases List.mem_or_eq_of_mem_set hx with hx | rfl
        · exact g6 x hx
        · exact hpo
      · rw [List.getElem?_set] at hx
        by_cases hkm : k = m
        · subst hkm
          simp only [if_true, hk] at hx
          cases hx
          rw [putCells, put_at _ _ _ _ (by omega)] at hy
          split at hy
          · rename_i hin
            have hq := lt_of_at hy
            have hq' : q - j < v.cells.size := by omega
            refine ⟨v.cells[q - j], ?_, he.rep (c3 (q - j) _ y (Array.getElem?_eq_getElem hq') hy)⟩
            rw [hat, if_pos (by omega), show r.base + (k * r.size + q) - (r.base + (k * r.size + j)) = q - j by omega, Array.getElem?_eq_getElem hq']
          · rename_i hout
            obtain ⟨z, f1, f2⟩ := g7 k cs q y h3 hy
            refine ⟨z, ?_, he.rep f2⟩
            rw [hat, if_neg (by omega)]; exact f1
        · simp only [hkm, if_false] at hx
          obtain ⟨z, f1, f2⟩ := g7 m x q y hx hy
          refine ⟨z, ?_, he.rep f2⟩
          have hq := lt_of_at hy
          rw [g5 x (List.mem_of_getElem? hx)] at hq
          rw [hat, if_neg]
          · exact f1
          · rintro ⟨k1, k2⟩
            rcases Nat.lt_or_ge m k with hlt | hge
            · have : (m + 1) * r.size ≤ k * r.size := Nat.mul_le_mul_right _ hlt
              rw [Nat.add_mul] at this; omega
            · have : (k + 1) * r.size ≤ m * r.size := Nat.mul_le_mul_right _ (by omega)
              rw [Nat.add_mul] at this; omega
  · cases hs
end
end AM
/- Appending. -/
namespace AM
open Go

section
variable {φ : Refs} {w w' : World} {a : Act} {ρ : Env} {P : Program} {bar T : Nat} {h h' : Heap} {d : D}

theorem append_eq {ts vs : Array _} {t u ty : TypeId} {s x : Value} (h1 : ts[0]? = some t) (h2 : ts[1]? = some u) (h3 : vs[0]? = some s) (h4 : vs[1]? = some x) : Builtin.append_ ts ty vs = Builtin.append_ #[t, u] ty #[s, x] := by
  simp only [Builtin.append_, h1, h2, h3, h4]
  rfl

theorem append_none {t tx ty e : TypeId} {i : TypeInfo} (ht : P.underlying t = some (.slice e)) (hi : P.info? e = some i) {base : Option Addr} {sLen sCap : Nat} {x : Value} {news : List Value} (hs : Src P i.size tx x 0 news w) (hle : sLen ≤ sCap) :
    (Builtin.append_ #[t, tx] ty #[.slice base sLen sCap, x]).run P w = .ok (.slice base sLen sCap) w := by
  have h0 : news = [] := List.eq_nil_of_length_eq_zero (by simpa using hs.newsLen)
  subst h0
  rcases hs.kind with ⟨e', hk⟩ | hk <;> cases base <;> simp [Builtin.append_, run_underlying ht, run_underlying hk, Go.sizeOf, typeInfo, hi, hs.len, hle, hs.cells, storeCells]

theorem append_room {t tx ty e : TypeId} {i : TypeInfo} (ht : P.underlying t = some (.slice e)) (hi : P.info? e = some i) {b off sLen sCap : Nat} {x : Value} {n : Nat} {news : List Value} (hs : Src P i.size tx x n news w)
    (hroom : sLen + n ≤ sCap) {c nc : Array Value} {te : TypeId} (hc : w.heap[b]? = some (.cells c te (0, 0))) (hfit : off + sLen * i.size + news.length ≤ c.size)
    (hnc : nc = (c.toList.take (off + sLen * i.size) ++ news ++ c.toList.drop (off + sLen * i.size + news.length)).toArray) :
    (Builtin.append_ #[t, tx] ty #[.slice (some ⟨b, off, none⟩) sLen sCap, x]).run P w = .ok (.slice (some ⟨b, off, none⟩) (sLen + n) sCap) (w.setRow b nc) := by
  have hst := run_storeCells_at (P := P) b (off + sLen * i.size) te news 0 c w hc (by simpa using hfit) hs.one
  simp only [Nat.add_zero] at hst
  rw [← hnc] at hst
  rcases hs.kind with ⟨e', hk⟩ | hk <;> simp [Builtin.append_, run_underlying ht, run_underlying hk, Go.sizeOf, typeInfo, hi, hs.len, hroom, hs.cells, add_at, hst]

theorem rowEs_of_obj {l : Nat} {r : Ref} {es : List (List D)} {c : Array Value} {ty : TypeId} (h : ObjOk φ w l r (.arr es)) (hc : w.heap[r.blk]? = some (.cells c ty (0, 0))) : RowEs φ w (fun k => c[r.base + k]?) r.size es := by
  obtain ⟨c', ty', g1, g2, g3, g4, g5, g6, g7⟩ := h
  rw [hc] at g1; cases g1
  exact ⟨g5, g6, fun e cs j d h1 h2 => g7 e cs j d h1 h2⟩

theorem RowEs.ext {T : Nat} {C C' : Cont} {φ' : Refs} {f : Nat → Option Value} {sz : Nat} {es : List (List D)} (h : RowEs φ w f sz es) (he : Ext T C φ w C' φ' w') : RowEs φ' w' f sz es :=
  ⟨h.1, h.2.1, fun e cs j d g1 g2 => let ⟨v, f1, f2⟩ := h.2.2 e cs j d g1 g2; ⟨v, f1, he.rep f2⟩⟩

theorem lvlEs_append {x y : List (List D)} {T : Nat} (h1 : lvlEs x ≤ T) (h2 : lvlEs y ≤ T) : lvlEs (x ++ y) ≤ T :=
  lvlEs_le.2 fun cs hcs => by
    rcases List.mem_append.1 hcs with h | h
    · exact lvlEs_le.1 h1 cs h
    · exact lvlEs_le.1 h2 cs h
theorem lvlEs_take {x : List (List D)} {T : Nat} (n : Nat) (h1 : lvlEs x ≤ T) : lvlEs (x.take n) ≤ T := lvlEs_le.2 fun cs hcs => lvlEs_le.1 h1 cs (List.mem_of_mem_take hcs)
theorem lvlEs_drop {x : List (List D)} {T : Nat} (n : Nat) (h1 : lvlEs x ≤ T) : lvlEs (x.drop n) ≤ T := lvlEs_le.2 fun cs hcs => lvlEs_le.1 h1 cs (List.mem_of_mem_drop hcs)

/-- Making the longer row. -/
theorem grown_row {c1 : Array Value} {xs ys : List Value} {sz need cap : Nat} {z : Array Value} {es new : List (List D)} (h1 : RowEs φ w (fun k => xs[k]?) sz es) (h2 : RowEs φ w (fun k => ys[k]?) sz new) (e1 : xs.length = es.length * sz) (e2 : ys.length = new.length * sz)
    (hz : z.size = sz) (hneed : need = es.length + new.length) (hcap : need ≤ cap) (hc : c1 = (xs ++ ys).toArray ++ Builtin.zeroCells z (cap - need)) : RowEs φ w (fun k => c1[0 + k]?) sz (es ++ new) ∧ c1.size = cap * sz := by
  have hl : c1.toList = xs ++ ys ++ (Builtin.zeroCells z (cap - need)).toList := by rw [hc]; simp
  constructor
  · have := RowEs.app (zs := (Builtin.zeroCells z (cap - need)).toList) h1 h2 e1 e2
    rw [← hl] at this
    simpa using this
  · have h3 : (cap - need) * sz + (es.length + new.length) * sz = cap * sz := by rw [← Nat.add_mul]; congr 1; omega
    rw [Nat.add_mul] at h3
    rw [hc]; simp [size_zeroCells, hz]; omega

theorem append_sim {t tx ty e : TypeId} {s : D} {u v : Value} {new : List (List D)} {bytes sz lv : Nat} {z : List D} {res : Result Next} (ht : P.underlying t = some (.slice e)) (hz : zeroCellsT P e = some z) (hn : sizeT P e = some sz) (hb : bytesT P e = some bytes) (hz0 : z.length ≠ 0) (hzs : z.length = sz) (hb0 : bytes ≠ 0)
    (hI : Inv φ w T (getO T h)) (hl : h.length = T) (hF : Fresh T φ (getO T h) (getO T h')) (hu : Rep φ w u s) (hsrc : rowsOk sz new = true → ∃ news, Src P sz tx v new.length news w ∧ RowEs φ w (fun k => news[k]?) sz new) (hlv : lvlEs new ≤ lv)
    (hs : appendD bar T bytes sz h s new lv = some (d, h')) (hres : res = ((Builtin.append_ #[t, tx] ty #[u, v]).run P w).andThen fun r w' => .ok (.value r) w') : Does T (getO T h) φ w h' res d := by
  obtain ⟨zv, z1, z2, z3, z4, z5, i, z6, z7⟩ := zeroCells_run (φ := φ) (w := w) hz
  have hsz : i.size = sz := by simpa [sizeT, z6] using hn
  have hby : i.bytes = bytes := by simpa [bytesT, z6] using hb
  have hfin : ∀ {r w1}, (Builtin.append_ #[t, tx] ty #[u, v]).run P w = .ok r w1 → res = .ok (.value r) w1 := by intro r w1 h; rw [hres, h]; rfl
  unfold appendD at hs
  split at hs
  · -- nil
    cases hu
    rcases brk_eq hs with ⟨hq, hs1⟩ | ⟨hq, hs1⟩
    · obtain ⟨rfl, rfl⟩ := some_pair hs1
      have hne : new = [] := by simpa using hq
      subst hne
      obtain ⟨news, g1, g2⟩ := hsrc rfl
      exact (Pure1.mk' (hfin (append_none ht z6 (hsz ▸ g1) (Nat.le_refl _))) (.nil)).does hI hl
    · obtain ⟨hq2, hs2⟩ := brk_none hs1
      simp only [Bool.and_eq_true, decide_eq_true_eq] at hq2
      obtain ⟨hrow, hlT, hbytes⟩ := hq2
      obtain ⟨news, g1, g2⟩ := hsrc hrow
      have hpos : 0 < new.length := by
        cases new with
        | nil => simp at hq
        | cons x r => simp
      have hbig : new.length ≤ 140737488355328 := Nat.le_trans (Nat.le_mul_of_pos_right _ (Nat.pos_of_ne_zero hb0)) hbytes
      have hrun := run_append_grow_src (P := P) w t tx ty e i zv ht z6 z7 none 0 0 [] (by simpa using run_firstCells_none (P := P) w.drew i.size 0 0 0) v new.length news (hsz ▸ g1) (by omega) (by omega) (by rw [Nat.zero_add, hby]; exact growslice_fits hpos hbytes)
      simp only [Nat.zero_add, List.nil_append] at hrun
      have hge := grownCap_ge w new.length 0 e
      generalize hcap : grownCap w new.length 0 e = cap at hrun hge
      generalize hc1 : news.toArray ++ Builtin.zeroCells zv.cells (cap - new.length) = c1 at hrun
      have hg := grown_row (c1 := c1) (xs := []) (es := []) (need := new.length) (cap := cap) (z := zv.cells) ⟨by simp, by simp, by simp⟩ g2 (by simp) g1.newsLen (by omega) (by simp) hge (by rw [← hc1]; simp)
      refine newO_does (r := ⟨w.heap.size, 0, sz, cap⟩) (w' := w.drew.alloc (.cells c1 e)) hI hl hF hs2 (hfin hrun) rfl rfl rfl rfl rfl (fun φ' C' hlt he => ?_) (fun φ' k hφ => ?_)
      · exact RowEs.ok (φ := φ) (w := w) (by simpa using hg.1) (alloc_heap w.drew _) (by simp [hg.2]) hge (by omega) he
      · exact .own _ _ 0 _ _ _ false _ _ hφ rfl (by simp) (by simp) hge (by simp)
  · -- a slice that nobody writes
    obtain ⟨hq, hs1⟩ := brk_none hs
    obtain ⟨rfl, rfl⟩ := some_pair hs1
    have hne : new = [] := by simpa using hq
    subst hne
    obtain ⟨news, g1, g2⟩ := hsrc rfl
    have hu' := hu
    cases hu with
    | slE ad cap => exact (Pure1.mk' (hfin (append_none ht z6 (hsz ▸ g1) (Nat.zero_le _))) hu').does hI hl
    | sl b o len cap sz es c hlen hcap => exact (Pure1.mk' (hfin (append_none ht z6 (hsz ▸ g1) hcap)) hu').does hI hl
  · -- a row of one's own
    rename_i l k off len sz' lim
    obtain ⟨ob, h1, hs1⟩ := bnd_eq hs
    obtain ⟨es, h2, hs2⟩ := bnd_eq hs1
    obtain ⟨hq, hs3⟩ := brk_none hs2
    have := asArr_eq h2; subst this
    simp only [Bool.and_eq_true, Bool.not_eq_true', beq_iff_eq, decide_eq_true_eq] at hq
    obtain ⟨⟨⟨rfl, hszq⟩, hrow⟩, hbar, hin, hlT⟩ := hq
    subst sz'
    obtain ⟨news, g1, g2⟩ := hsrc hrow
    cases hu with
    | own l k off len cap sz lim r ad hφ hrs k1 k2 k3 k4 =>
      have hcap := k2 rfl
      have hobj := hI.obj l k r _ hφ h1
      obtain ⟨c, tc, o1, o2, o3, o4, o5, o6, o7⟩ := id hobj
      have hrw := rowEs_of_obj hobj o1
      have hlr := (hI.bnd l k r hφ).1
      rcases Nat.eq_zero_or_pos new.length with hzero | hpos
      · have hne : new = [] := List.eq_nil_of_length_eq_zero hzero
        subst hne
        have hrun := append_none (ty := ty) (base := some ad) ht z6 (hsz ▸ g1) k3
        rcases brk_eq hs3 with ⟨hq, hs4⟩ | ⟨hq, hs4⟩
        · obtain ⟨rfl, rfl⟩ := some_pair hs4
          have hsame : es.take (off + len) ++ ([] : List (List D)) ++ es.drop (off + len + ([] : List (List D)).length) = es := by simp
          have hC' : ∀ l' i', getO T (setO T h l k (.arr (es.take (off + len) ++ [] ++ es.drop (off + len + ([] : List (List D)).length)))) l' i' = if l' = l ∧ i' = k then some (.arr es) else getO T h l' i' := by
            intro l' i'; rw [hsame]; exact getO_setO _ hl l' i' (by rw [h1]; rfl)
          have he := store_ext (T := T) (w := w) (w' := w) hφ h1 (by simp) hC' rfl rfl rfl rfl (fun _ _ => rfl)
          exact ⟨_, w, φ, .inl (hfin hrun), by simpa using Rep.own l k off len cap sz false r ad hφ hrs k1 k2 k3 k4, he, store_inv hI hφ h1 (by simp) hC' rfl (fun _ _ => rfl) he hobj, by rw [setO_length, hl]⟩
        · simp only [List.length_nil, Nat.add_zero, decide_eq_false_iff_not] at hq; omega
      · have had := k4
        rcases Nat.lt_or_ge cap (len + new.length) with hgrow | hroom
        · -- a new row
          rcases brk_eq hs3 with ⟨hq, hs4⟩ | ⟨hq, hs4⟩
          · simp only [decide_eq_true_eq] at hq; omega
          · obtain ⟨hbytes, hs5⟩ := brk_none hs4
            simp only [decide_eq_true_eq] at hbytes
            have hbig : len + new.length ≤ 140737488355328 := Nat.le_trans (Nat.le_mul_of_pos_right _ (Nat.pos_of_ne_zero hb0)) hbytes
            have holds := elems_src (tx := t) (e' := e) (sz := sz) ht hI (Rep.own (φ := φ) (w := w) l k off len cap sz false r ad hφ hrs k1 k2 k3 k4) (es := (es.drop off).take len) (by simp [elems, h1, asArr, bnd, brk, hin]) (by
              refine List.all_eq_true.2 fun cs hcs => ?_
              have := o5 cs (List.mem_of_mem_drop (List.mem_of_mem_take hcs))
              simp [this, hrs]) (by omega)
            obtain ⟨olds, p1, p2⟩ := holds
            have hol : ((es.drop off).take len).length = len := by simp; omega
            have hrun := run_append_grow_src (P := P) w t tx ty e i zv ht z6 z7 (some ad) len cap olds (by rw [hsz]; have := p1.cellsD; rwa [hol] at this) v new.length news (hsz ▸ g1) hgrow (by omega) (by rw [hby]; exact growslice_fits hgrow hbytes)
            have hge := grownCap_ge w (len + new.length) cap e
            generalize hcp : grownCap w (len + new.length) cap e = cap' at hrun hge
            generalize hc1 : (olds ++ news).toArray ++ Builtin.zeroCells zv.cells (cap' - (len + new.length)) = c1 at hrun
            have hg := grown_row (c1 := c1) (need := len + new.length) (cap := cap') (z := zv.cells) p2 g2 (by rw [p1.newsLen]) g1.newsLen (by omega) (by rw [hol]) hge hc1.symm
            have hkC := getO_setO (.dead) hl (i := k) (l := l) (h := h)
            have hkC' : ∀ l' i', getO T (setO T h l k .dead) l' i' = if l' = l ∧ i' = k then some .dead else getO T h l' i' := fun l' i' => hkC l' i' (by rw [h1]; rfl)
            have he1 := kill_ext (T := T) (φ := φ) (w := w) hkC'
            have hI1 := kill_inv hI hkC'
            have hF1 := hF.right he1
            have hdo := newO_does (r := ⟨w.heap.size, 0, sz, cap'⟩) (w' := w.drew.alloc (.cells c1 e)) (res := res) hI1 (by rw [setO_length, hl]) hF1 hs5 (hfin hrun) rfl rfl rfl rfl rfl (fun φ' C' hlt he => RowEs.ok (φ := φ) (w := w) (by simpa using hg.1) (alloc_heap w.drew _) (by simp [hg.2]) (by simp only [List.length_append, hol]; exact hge) (lvlEs_append (lvlEs_take _ (lvlEs_drop _ o4)) (by omega)) he)
              (fun φ' j hφ' => Rep.own _ _ 0 _ _ _ false _ _ hφ' rfl (by simp) (by simp) hge (by simp))
            obtain ⟨rv, rw', rφ, q1, q2, q3, q4, q5⟩ := hdo
            exact ⟨rv, rw', rφ, q1, q2, he1.trans (fun l i r h => (hI1.bnd l i r h).1) (fun l i r h => (q4.bnd l i r h).1) q3, q4, q5⟩
        · -- in place
          have hadr := k4 (by omega)
          subst hadr
          have hnl := g1.newsLen
          have hfit : r.base + off * r.size + len * i.size + news.length ≤ c.size := by
            have e1 : (off + len + new.length) * sz ≤ r.cap * sz := Nat.mul_le_mul_right _ (by omega)
            rw [Nat.add_mul, Nat.add_mul] at e1
            rw [hsz, hnl, hrs]
            rw [hrs] at o2
            omega
          have hrun := append_room (ty := ty) (nc := (c.toList.take (r.base + off * r.size + len * i.size) ++ news ++ c.toList.drop (r.base + off * r.size + len * i.size + news.length)).toArray) ht z6 (hsz ▸ g1) hroom o1 hfit rfl
          generalize hc1 : (c.toList.take (r.base + off * r.size + len * i.size) ++ news ++ c.toList.drop (r.base + off * r.size + len * i.size + news.length)).toArray = nc at hrun
          have hat : ∀ m, nc[r.base + m]? = if (off + len) * sz ≤ m ∧ m < (off + len) * sz + news.length then news[m - (off + len) * sz]? else c[r.base + m]? := by
            intro m
            subst hc1
            have := put_at c.toList news (r.base + off * r.size + len * i.size) (r.base + m) (by simpa using hfit)
            rw [hsz, hrs] at this
            rw [hsz, hrs, List.getElem?_toArray, this, Nat.add_mul]
            by_cases hm : off * sz + len * sz ≤ m ∧ m < off * sz + len * sz + news.length
            · rw [if_pos (by omega), if_pos hm]; congr 1; omega
            · rw [if_neg (by omega), if_neg hm, Array.getElem?_toList]
          have hncs : nc.size = c.size := by subst hc1; simp; omega
          have hw := setRow_heap w r.blk c nc tc (0, 0) o1
          have hoth : ∀ b, b ≠ r.blk → (w.setRow r.blk nc).heap[b]? = w.heap[b]? := fun b hb => setRow_other w r.blk b nc hb
          rw [hrs] at hrw
          have hput := RowEs.put (m := off + len) (g := fun m => nc[r.base + m]?) hrw g2 hnl (by omega) hat
          have hlvl : lvlEs (es.take (off + len) ++ new ++ es.drop (off + len + new.length)) ≤ l + 1 := lvlEs_append (lvlEs_append (lvlEs_take _ o4) (by omega)) (lvlEs_drop _ o4)
          rcases brk_eq hs3 with ⟨hq, hs4⟩ | ⟨hq, hs4⟩
          · simp only [decide_eq_true_eq] at hq
            obtain ⟨rfl, rfl⟩ := some_pair hs4
            have hC' : ∀ l' i', getO T (setO T h l k (.arr (es.take (off + len) ++ new ++ es.drop (off + len + new.length)))) l' i' = if l' = l ∧ i' = k then some (.arr (es.take (off + len) ++ new ++ es.drop (off + len + new.length))) else getO T h l' i' :=
              fun l' i' => getO_setO _ hl l' i' (by rw [h1]; rfl)
            have he := store_ext (T := T) (w := w) (w' := w.setRow r.blk nc) hφ h1 (by simp) hC' rfl rfl rfl (by simp) hoth
            refine ⟨_, w.setRow r.blk nc, φ, .inl (hfin hrun), Rep.own l k off _ cap sz false r _ hφ hrs k1 k2 hroom (fun _ => rfl), he, store_inv hI hφ h1 (by simp) hC' (by simp) hoth he ?_, by rw [setO_length, hl]⟩
            exact RowEs.ok (φ := φ) (w := w) (by rw [hrs]; exact hput) hw (by omega) (by simp; omega) hlvl he
          · simp only [decide_eq_false_iff_not] at hq
            obtain ⟨hbytes, hs5⟩ := brk_none hs4
            obtain ⟨i2, rfl, n1, n2, n3, n4⟩ := newO_eq (by rw [setO_length, hl]) hs5
            have hkC : ∀ l' i', getO T (setO T h l k .dead) l' i' = if l' = l ∧ i' = k then some .dead else getO T h l' i' := fun l' i' => getO_setO _ hl l' i' (by rw [h1]; rfl)
            have hne : ¬ (l = l ∧ i2 = k) := by rintro ⟨_, rfl⟩; rw [hkC] at n3; simp at n3
            have hC2 : getO T h l i2 = none := by rw [hkC, if_neg hne] at n3; exact n3
            have hC' : ∀ l' i', getO T h' l' i' = if l' = l ∧ i' = i2 then some (.arr ((es.drop off).take len ++ new)) else if l' = l ∧ i' = k then some .dead else getO T h l' i' := by
              intro l' i'; rw [n4, hkC]
            have hφ2 : φ l i2 = none := hF l i2 hlr hC2 (by rw [hC']; simp)
            have he := move_ext (T := T) (w := w) (w' := w.setRow r.blk nc) (r2 := ⟨r.blk, r.base + off * sz, sz, cap⟩) hφ hφ2 h1 hC2 (by simp) hC' rfl rfl rfl (by simp) hoth rfl
            have hdr : es.drop (off + len + new.length) = [] := List.drop_of_length_le (by omega)
            have heq : (es.take (off + len) ++ new ++ es.drop (off + len + new.length)).drop off = (es.drop off).take len ++ new := by
              rw [hdr, List.append_nil, List.drop_append_of_le_length (by simp; omega), List.drop_take]
              congr 2; omega
            refine ⟨_, w.setRow r.blk nc, addR φ l i2 ⟨r.blk, r.base + off * sz, sz, cap⟩, .inl (hfin hrun), Rep.own l i2 0 _ cap sz false _ _ addR_same rfl (by simp) (by simp) hroom (by intro _; simp [hrs]), he, move_inv hI hφ hφ2 h1 (by simp) hC' (by simp) hoth rfl he ?_, n1⟩
            have hd := hput.drop off
            rw [heq] at hd
            refine RowEs.ok (φ := φ) (w := w) (c := nc) (ty := tc) ?_ hw ?_ ?_ (lvlEs_append (lvlEs_take _ (lvlEs_drop _ o4)) (by omega)) he
            · have : (fun m => nc[r.base + off * sz + m]?) = fun m => nc[r.base + (off * sz + m)]? := by funext m; rw [Nat.add_assoc]
              show RowEs φ w (fun m => nc[r.base + off * sz + m]?) sz _
              rw [this]; exact hd
            · show r.base + off * sz + cap * sz ≤ nc.size
              have : (off + cap) * sz ≤ r.cap * sz := Nat.mul_le_mul_right _ k1
              rw [Nat.add_mul] at this
              rw [hrs] at o2
              omega
            · show ((es.drop off).take len ++ new).length ≤ cap
              simp; omega
  · cases hs
end
end AM
