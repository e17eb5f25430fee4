/- An evaluator for the program's code over small heaps with names: definitions alone. It bears no condition. -/
import Derived.WalkKit
import Derived.CallsIn
import Derived.OrdersIn
namespace Go.Proofs.Ytjheedfobmlalaa.E
set_option linter.unusedVariables false

/-- Values of the evaluator. A pointer bears a block's name and a place. A slice bears 'g': 0: its capacity is as told; else: it is at least as told, and each element takes g cells. -/
inductive AV where
  | b (x : Bool)
  | i (k : IntKind) (n : Int)
  | s (x : ByteArray)
  | p (a : Option (Nat × Nat))
  | sl (a : Option (Nat × Nat)) (len cap : Nat) (g : Nat)
  | m (r : Option Nat)
  | fn (f : Fn) (first cap : List AV)
  | nf
  | agg (l : List AV)
  | tup (l : List AV)
  deriving Inhabited

abbrev und : AV := .tup []

mutual
def sameV : AV → AV → Bool
  | .b x, .b y => x == y
  | .i k x, .i l y => decide (k = l) && decide (x = y)
  | .s x, .s y => decide (x = y)
  | .p x, .p y => decide (x = y)
  | .sl a n c g, .sl b m d h => decide (a = b) && decide (n = m) && decide (c = d) && decide (g = h)
  | .m x, .m y => decide (x = y)
  | .fn f a b, .fn g c d => decide (f = g) && sameVL a c && sameVL b d
  | .nf, .nf => true
  | .agg a, .agg b => sameVL a b
  | .tup a, .tup b => sameVL a b
  | _, _ => false
def sameVL : List AV → List AV → Bool
  | [], [] => true
  | x :: xs, y :: ys => sameV x y && sameVL xs ys
  | _, _ => false
end

mutual
theorem sameV_eq : ∀ {x y : AV}, sameV x y = true → x = y
  | .b x, .b y, h => by simp only [sameV, beq_iff_eq] at h; rw [h]
  | .i k x, .i l y, h => by simp only [sameV, Bool.and_eq_true, decide_eq_true_eq] at h; rw [h.1, h.2]
  | .s x, .s y, h => by simp only [sameV, decide_eq_true_eq] at h; rw [h]
  | .p x, .p y, h => by simp only [sameV, decide_eq_true_eq] at h; rw [h]
  | .sl a n c g, .sl b m d k, h => by simp only [sameV, Bool.and_eq_true, decide_eq_true_eq] at h; obtain ⟨⟨⟨rfl, rfl⟩, rfl⟩, rfl⟩ := h; rfl
  | .m x, .m y, h => by simp only [sameV, decide_eq_true_eq] at h; rw [h]
  | .fn f a b, .fn g c d, h => by
    simp only [sameV, Bool.and_eq_true, decide_eq_true_eq] at h
    rw [h.1.1, sameVL_eq h.1.2, sameVL_eq h.2]
  | .nf, .nf, _ => rfl
  | .agg a, .agg b, h => by simp only [sameV] at h; rw [sameVL_eq h]
  | .tup a, .tup b, h => by simp only [sameV] at h; rw [sameVL_eq h]
theorem sameVL_eq : ∀ {x y : List AV}, sameVL x y = true → x = y
  | [], [], _ => rfl
  | x :: xs, y :: ys, h => by
    simp only [sameVL, Bool.and_eq_true] at h
    rw [sameV_eq h.1, sameVL_eq h.2]
end

/-- Operands. -/
inductive XO where
  | t (n : Nat)
  | c (v : AV)
  deriving Inhabited

inductive XOp where
  | bad
  | mv (x : XO)
  | pick (c a b : XO)
  | alloc (z : List AV)
  | box (x : XO)
  | build (z : List AV) (parts : List (Nat × Nat × XO))
  | bslice (z : List AV) (parts : List (Nat × Nat × XO)) (len : Nat)
  | load (agg : Bool) (n : Nat) (x : XO)
  | store (n : Nat) (a x : XO)
  | nilc (x : XO)
  | bin (op : BinOp) (x y : XO)
  | beq (neg : Bool) (x y : XO)
  | nilq (cls : Nat) (neg : Bool) (x : XO)
  | eqagg (neg : Bool) (kd len : Nat) (x y : XO)
  | unx (op : UnOp) (x : XO)
  | cint (k : IntKind) (x : XO)
  | cstr (x : XO)
  | cb2s (x : XO)
  | cs2b (x : XO)
  | mkf (f : Fn) (first cap : List XO)
  | mkmap
  | mkslice (z : List AV) (bytes : Nat) (len cap : XO)
  | slstr (x : XO) (lo hi : Option XO)
  | slsl (size : Nat) (x : XO) (lo hi mx : Option XO)
  | slarr (n size : Nat) (x : XO) (lo hi mx : Option XO)
  | fadd (off : Nat) (x : XO)
  | fld (agg : Bool) (off n : Nat) (x : XO)
  | iarr (len size : Nat) (x i : XO)
  | isl (size : Nat) (x i : XO)
  | idxa (agg : Bool) (len size : Nat) (x i : XO)
  | idxs (x i : XO)
  | lookup (kd : Nat) (z : AV) (x k : XO) (ok : Bool)
  | mput (kd : Nat) (m k v : XO)
  | ext (x : XO) (i : Nat)
  | call (f : XO) (args : List XO)
  | lenx (x : XO)
  | lens (x : XO)
  | lena (n : Nat)
  | lenm (x : XO)
  | capx (x : XO)
  | append (size bytes : Nat) (s x : XO)
  | copy (size : Nat) (d x : XO)
  | clrs (z : List AV) (x : XO)
  | clrm (x : XO)
  | del (kd : Nat) (m k : XO)
  | mnmx (mx : Bool) (xs : List XO)
  deriving Inhabited

/-- An operation: where its value goes, its guard (a temporary and what is wanted of it), its place in the region, the operations that come before it in each order. -/
structure XOper where
  dst : Option Nat
  op : XOp
  guard : Option (Nat × Bool)
  ix : Nat
  bef : List Nat
  deriving Inhabited

inductive XC where
  | skip
  | region (ops : List XOper)
  | draw (ops : List XOper)
  | seq (a b : XC)
  | cond (c : XO) (a b : XC)
  | block (id : Nat) (b : XC)
  | loop (b : XC)
  | rangeFn (f : XO) (params : List Nat) (assign body : XC)
  | exit (id : Nat)
  | ret
  deriving Inhabited

inductive XExit where
  | norm | ret | exit (id : Nat)
  deriving Inhabited, DecidableEq

inductive XRes where
  | t (n : Nat)
  | cell (a : Nat) (agg : Bool) (n : Nat)
  deriving Inhabited

structure XFun where
  body : XC
  results : List XRes
  deriving Inhabited

/-- Temporaries. -/
abbrev Tm := List (Nat × AV)
def Tm.get : Tm → Nat → AV
  | [], _ => und
  | (b, v) :: r, a => if b = a then v else Tm.get r a
def Tm.set : Tm → Nat → AV → Tm
  | [], a, v => [(a, v)]
  | (b, w) :: r, a, v => if b = a then (a, v) :: r else (b, w) :: Tm.set r a v
def Tm.put (T : Tm) (d : Option Nat) (v : AV) : Tm := match d with | some d => T.set d v | none => T
def XO.ev (T : Tm) : XO → AV
  | .t n => T.get n
  | .c v => v

/-- Blocks: cells (may they be written? that is so of those that the call itself has made); maps; loops over functions. -/
inductive Blk where
  | cells (c : List AV) (mu : Bool)
  | map (es : List (AV × AV × Nat)) (clock : Nat)
  | loop (st : LoopState) (pend : Option XExit) (params : List Nat) (assign body : XC) (T : Tm)
  deriving Inhabited

structure AH where
  bl : List (Nat × Option Blk)
  next : Nat
  deriving Inhabited

def AH.getL : List (Nat × Option Blk) → Nat → Option Blk
  | [], _ => none
  | (b, v) :: r, a => if b = a then v else AH.getL r a
def AH.setL : List (Nat × Option Blk) → Nat → Option Blk → List (Nat × Option Blk)
  | [], a, v => [(a, v)]
  | (b, w) :: r, a, v => if b = a then (a, v) :: r else (b, w) :: AH.setL r a v
def AH.get (H : AH) (n : Nat) : Option Blk := AH.getL H.bl n
def AH.set (H : AH) (n : Nat) (b : Blk) : AH := { H with bl := AH.setL H.bl n (some b) }
def AH.drop (H : AH) (n : Nat) : AH := { H with bl := AH.setL H.bl n none }
def AH.alloc (H : AH) (b : Blk) : AH := { bl := (H.next, some b) :: H.bl, next := H.next + 1 }

/-- Are two flat values (numbers, bools, texts) the same? -/
def AV.flatEq : AV → AV → Option Bool
  | .b x, .b y => some (x == y)
  | .i k x, .i l y => if k = l then some (decide (x = y)) else none
  | .s x, .s y => some (x.toList == y.toList)
  | _, _ => none
def AV.listEq : List AV → List AV → Option Bool
  | [], [] => some true
  | x :: xs, y :: ys =>
    match AV.flatEq x y with
    | some true => AV.listEq xs ys
    | some false => some false
    | none => none
  | _, _ => none

def ibits (op : BinOp) (k : IntKind) (x y : Int) : Option Int :=
  let a := BitVec.ofInt k.bits x
  let b := BitVec.ofInt k.bits y
  match op with
  | .and => some (k.wrap (a &&& b).toNat)
  | .or => some (k.wrap (a ||| b).toNat)
  | .xor => some (k.wrap (a ^^^ b).toNat)
  | .andNot => some (k.wrap (a &&& ~~~b).toNat)
  | _ => none

def icmp (op : BinOp) (x y : Int) : Option Bool :=
  match op with
  | .eql => some (decide (x = y))
  | .neq => some (!decide (x = y))
  | .lss => some (decide (x < y))
  | .leq => some (decide (x ≤ y))
  | .gtr => some (decide (y < x))
  | .geq => some (decide (y ≤ x))
  | _ => none

def pbin (op : BinOp) (x y : AV) : Option AV :=
  match x, y with
  | .i k a, .i l b =>
    match op with
    | .shl => if b < 0 then none else some (.i k (k.wrap (a * 2 ^ (min b.toNat k.bits))))
    | .shr => if b < 0 then none else some (.i k (a.fdiv (2 ^ (min b.toNat k.bits))))
    | .add => if k = l then some (.i k (k.wrap (a + b))) else none
    | .sub => if k = l then some (.i k (k.wrap (a - b))) else none
    | .mul => if k = l then some (.i k (k.wrap (a * b))) else none
    | .quo => if k = l then (if b = 0 then none else some (.i k (k.wrap (a.tdiv b)))) else none
    | .rem => if k = l then (if b = 0 then none else some (.i k (a.tmod b))) else none
    | .and | .or | .xor | .andNot => if k = l then (ibits op k a b).map (.i k) else none
    | .eql | .neq | .lss | .leq | .gtr | .geq => if k = l then (icmp op a b).map .b else none
  | .s a, .s b =>
    match op with
    | .add => if ((a.size + b.size : Nat) : Int) > IntKind.i64.max then none else some (.s (a ++ b))
    | .eql => some (.b (a.toList == b.toList))
    | .neq => some (.b (!(a.toList == b.toList)))
    | _ => none
  | _, _ => none

def pun (op : UnOp) (x : AV) : Option AV :=
  match op, x with
  | .neg, .i k n => some (.i k (k.wrap (0 - n)))
  | .xor, .i k n => (ibits .xor k (if k.signed then -1 else k.max) n).map (.i k)
  | .not, .b b => some (.b (!b))
  | _, _ => none

def pmnmx (mx : Bool) (x y : AV) : Option AV :=
  match x, y with
  | .i k a, .i _ b => some (.i k (if mx then (if b > a then b else a) else (if b < a then b else a)))
  | _, _ => none

/-- Put parts into a row of cells: each part has a place, a size and a value. -/
def AV.one : AV → Bool
  | .agg _ | .tup _ => false
  | _ => true
def AV.cellsOf : AV → Option (List AV)
  | .agg l => some l
  | .tup _ => none
  | v => some [v]
def putAt : List AV → Nat → List AV → List AV
  | c, _, [] => c
  | c, o, v :: vs => putAt (c.set o v) (o + 1) vs
def fillP (T : Tm) : List AV → List (Nat × Nat × XO) → Option (List AV)
  | c, [] => some c
  | c, (off, size, x) :: r =>
    match (x.ev T).cellsOf with
    | some vs => if vs.length = size ∧ off + size ≤ c.length then fillP T (putAt c off vs) r else none
    | none => none

def repl : Nat → List AV → List AV
  | 0, _ => []
  | n + 1, z => z ++ repl n z

/-- Cells of a block from a place on. -/
def takeAt (c : List AV) (o n : Nat) : Option (List AV) := if o + n ≤ c.length then some ((c.drop o).take n) else none

def sbound (x : AV) (y : Nat) : Option Nat :=
  match x with
  | .i _ i => if 0 ≤ i ∧ i ≤ (y : Int) then some i.toNat else none
  | _ => none
def sbounds (len cap : Nat) (lo hi mx : Option AV) : Option (Nat × Nat × Nat) :=
  match (match mx with | some v => sbound v cap | none => some cap) with
  | none => none
  | some m =>
    match (match hi, mx with | some v, some _ => sbound v m | some v, none => sbound v cap | none, none => some len | none, some _ => none) with
    | none => none
    | some h =>
      match (match lo with | some v => sbound v h | none => some 0) with
      | none => none
      | some l => some (l, h, m)

def bytesOf : List AV → Option (List UInt8)
  | [] => some []
  | .i .u8 n :: r => (bytesOf r).map (UInt8.ofNat n.toNat :: ·)
  | _ => none

/-- Keys of one kind: 0: numbers, 1: texts, 2: bools. -/
def keyEq : Nat → AV → AV → Option Bool
  | 0, .i k x, .i l y => if k = l then some (decide (x = y)) else none
  | 1, .s x, .s y => some (x == y)
  | 2, .b x, .b y => some (x == y)
  | _, _, _ => none
/-- Two pointers as keys: of one block, or of two that may be written. -/
def AH.apart (H : AH) (m n : Nat) : Bool := match H.get m, H.get n with
  | some (.cells _ true), some (.cells _ true) => true
  | _, _ => false
def keyEqH (H : AH) : Nat → AV → AV → Option Bool
  | 3, .p (some a), .p (some b) => if a.1 = b.1 then some (decide (a.2 = b.2)) else if H.apart a.1 b.1 = true then some false else none
  | kd, x, y => keyEq kd x y
def keyOk : Nat → AV → Bool
  | 0, .i _ _ => true
  | 1, .s _ => true
  | 2, .b _ => true
  | 3, .p (some _) => true
  | _, _ => false
def mfind (H : AH) (kd : Nat) (k : AV) : List (AV × AV × Nat) → Nat → Option (Option (Nat × AV))
  | [], _ => some none
  | (a, v, _) :: r, i =>
    match keyEqH H kd k a with
    | some true => some (some (i, v))
    | some false => mfind H kd k r (i + 1)
    | none => none

/-- What an operation that turns nothing gives, in a heap. -/
def XOp.look (T : Tm) (H : AH) : XOp → Option AV
  | .mv x => some (x.ev T)
  | .pick c a b => match c.ev T with | .b c => some (if c then a.ev T else b.ev T) | _ => none
  | .build z parts => (fillP T z parts).map .agg
  | .load agg n x =>
    match x.ev T with
    | .p (some (b, o)) =>
      match H.get b with
      | some (.cells c _) => if agg then (takeAt c o n).map .agg else c[o]?
      | _ => none
    | _ => none
  | .nilc x =>
    match x.ev T with
    | .p (some a) => some (.p (some a))
    | .fn (.func f) first cap => some (.fn (.func f) first cap)
    | _ => none
  | .bin op x y => pbin op (x.ev T) (y.ev T)
  | .beq neg x y =>
    match x.ev T, y.ev T with
    | .b a, .b b => some (.b (if neg then !(a == b) else a == b))
    | _, _ => none
  | .nilq cls neg x =>
    match cls, x.ev T with
    | 0, .p a => some (.b (if neg then !a.isNone else a.isNone))
    | 1, .sl a _ _ _ => some (.b (if neg then !a.isNone else a.isNone))
    | 2, .m a => some (.b (if neg then !a.isNone else a.isNone))
    | 3, .nf => some (.b (!neg))
    | 3, .fn _ _ _ => some (.b neg)
    | _, _ => none
  | .eqagg neg kd len x y =>
    match x.ev T, y.ev T with
    | .agg a, .agg b => if len = a.length ∧ a.all (keyOk kd) = true then (AV.listEq a b).map fun r => .b (if neg then !r else r) else none
    | _, _ => none
  | .unx op x => pun op (x.ev T)
  | .cint k x => match x.ev T with | .i _ n => some (.i k (k.wrap n)) | _ => none
  | .cstr x => match x.ev T with | .s s => some (.s s) | _ => none
  | .cb2s x =>
    match x.ev T with
    | .sl none _ _ _ => some (.s .empty)
    | .sl (some (b, o)) len _ _ =>
      if len = 0 then some (.s .empty) else
      match H.get b with
      | some (.cells c _) => match takeAt c o len with | some l => (bytesOf l).map fun l => .s ⟨l.toArray⟩ | none => none
      | _ => none
    | _ => none
  | .mkf f first cap => some (.fn f (first.map (·.ev T)) (cap.map (·.ev T)))
  | .slstr x lo hi =>
    match x.ev T with
    | .s s => (sbounds s.size s.size (lo.map (·.ev T)) (hi.map (·.ev T)) none).map fun (l, h, _) => .s (s.extract l h)
    | _ => none
  | .slsl size x lo hi mx =>
    match x.ev T with
    | .sl a len cap g =>
      if g = 0 ∨ g = size then
        match sbounds len cap (lo.map (·.ev T)) (hi.map (·.ev T)) (mx.map (·.ev T)) with
        | some (l, h, m) =>
          let g' := if mx.isSome then 0 else g
          some (.sl (if m = l ∧ g' = 0 then a else a.map fun (b, o) => (b, o + l * size)) (h - l) (m - l) g')
        | none => none
      else none
    | _ => none
  | .slarr n size x lo hi mx =>
    match x.ev T with
    | .p (some (b, o)) =>
      match sbounds n n (lo.map (·.ev T)) (hi.map (·.ev T)) (mx.map (·.ev T)) with
      | some (l, h, m) => some (.sl (if m = l then some (b, o) else some (b, o + l * size)) (h - l) (m - l) 0)
      | none => none
    | _ => none
  | .fadd off x => match x.ev T with | .p (some (b, o)) => some (.p (some (b, o + off))) | _ => none
  | .fld agg off n x =>
    match x.ev T with
    | .agg c => if agg then (takeAt c off n).map .agg else c[off]?
    | _ => none
  | .iarr len size x i =>
    match x.ev T, i.ev T with
    | .p (some (b, o)), .i _ n => if 0 ≤ n ∧ n < (len : Int) then some (.p (some (b, o + n.toNat * size))) else none
    | _, _ => none
  | .isl size x i =>
    match x.ev T, i.ev T with
    | .sl (some (b, o)) len _ _, .i _ n => if 0 ≤ n ∧ n < (len : Int) then some (.p (some (b, o + n.toNat * size))) else none
    | _, _ => none
  | .idxa agg len size x i =>
    match x.ev T, i.ev T with
    | .agg c, .i _ n => if 0 ≤ n ∧ n < (len : Int) then (if agg then (takeAt c (n.toNat * size) size).map .agg else c[n.toNat * size]?) else none
    | _, _ => none
  | .idxs x i =>
    match x.ev T, i.ev T with
    | .s s, .i _ n => if 0 ≤ n then (s[n.toNat]?).map fun b => .i .u8 b.toNat else none
    | _, _ => none
  | .lookup kd z x k ok =>
    if keyOk kd (k.ev T) = false then none else
    match (match x.ev T with
      | .m none => some none
      | .m (some r) => match H.get r with | some (.map es _) => (mfind H kd (k.ev T) es 0).map fun o => o.map (·.2) | _ => none
      | _ => none) with
    | some (some v) => some (if ok then .tup [v, .b true] else v)
    | some none => some (if ok then .tup [z, .b false] else z)
    | none => none
  | .ext x i => match x.ev T with | .tup l => l[i]? | _ => none
  | .lenx x =>
    match x.ev T with
    | .sl _ n _ _ => some (.i .i64 n)
    | _ => none
  | .lens x =>
    match x.ev T with
    | .s s => some (.i .i64 s.size)
    | _ => none
  | .lena n => some (.i .i64 n)
  | .lenm x =>
    match x.ev T with
    | .m none => some (.i .i64 0)
    | .m (some r) => match H.get r with | some (.map es _) => some (.i .i64 es.length) | _ => none
    | _ => none
  | .capx x => match x.ev T with | .sl _ _ c 0 => some (.i .i64 c) | _ => none
  | .mnmx mx xs =>
    match xs with
    | [] => none
    | x :: r => r.foldl (fun a y => match a with | some v => pmnmx mx v (y.ev T) | none => none) (some (x.ev T))
  | _ => none

/-- What makes one new block, and reads nothing. -/
def XOp.make (T : Tm) : XOp → Option (Nat → AV × Blk)
  | .alloc z => some fun n => (.p (some (n, 0)), .cells z true)
  | .box x => (x.ev T).cellsOf.map fun c => fun n => (.p (some (n, 0)), .cells c true)
  | .bslice z parts len => (fillP T z parts).map fun c => fun n => (.sl (some (n, 0)) len len 0, .cells c true)
  | .mkmap => some fun n => (.m (some n), .map [] 0)
  | .mkslice z bytes len cap =>
    match len.ev T, cap.ev T with
    | .i _ l, .i _ c =>
      if 0 ≤ l ∧ l ≤ c ∧ c * bytes ≤ 1073741824 ∧ c < 1073741824 then some fun n => (.sl (some (n, 0)) l.toNat c.toNat 0, .cells (repl c.toNat z) true) else none
    | _, _ => none
  | .cs2b x =>
    match x.ev T with
    | .s s => some fun n => (.sl (some (n, 0)) s.size s.size 1, .cells (s.data.toList.map fun b => .i .u8 b.toNat) true)
    | _ => none
  | _ => none

/-- The octets, or cells, that append and copy take. -/
def XOp.src (H : AH) (size n : Nat) : AV → Option (List AV)
  | .sl none _ _ _ => if n = 0 then some [] else none
  | .sl (some (b, o)) _ _ _ =>
    if n * size = 0 then some [] else
    match H.get b with
    | some (.cells c _) => takeAt c o (n * size)
    | _ => none
  | .s s => if size = 1 then some ((s.data.toList.take n).map fun b => .i .u8 b.toNat) else none
  | _ => none
def lenOfA : AV → Option Nat
  | .sl _ n _ _ => some n
  | .s s => some s.size
  | _ => none

/-- Write cells into a block that may be written. -/
def AH.write (H : AH) (b o : Nat) (vs : List AV) : Option AH :=
  if vs = [] then some H else
  match H.get b with
  | some (.cells c true) => if o + vs.length ≤ c.length then some (H.set b (.cells (putAt c o vs) true)) else none
  | _ => none

/-- What turns the heap, but for calls. -/
def XOp.turn (T : Tm) (H : AH) : XOp → Option (AV × AH)
  | .store n a x =>
    match a.ev T with
    | .p (some (b, o)) =>
      match (x.ev T).cellsOf with
      | some vs => if vs.length = n then (H.write b o vs).map fun H => (und, H) else none
      | none => none
    | _ => none
  | .append size bytes s x =>
    match s.ev T with
    | .sl a len cap g =>
      match lenOfA (x.ev T) with
      | some n =>
        match XOp.src H size n (x.ev T) with
        | some new =>
          if len + n ≤ cap then
            match a with
            | some (b, o) => (H.write b (o + len * size) new).map fun H => (.sl a (len + n) cap g, H)
            | none => if n = 0 then some (.sl none len cap g, H) else none
          else if (len + n) * bytes ≤ 1073741824 ∧ len + n ≤ 1073741824 then
            match XOp.src H size len (s.ev T) with
            | some old =>
              let H' := H.alloc (.cells (old ++ new) true)
              if g = 0 then some (.sl (some (H.next, 0)) (len + n) (len + n) size, H')
              else if g = size then
                match a with
                | some (b, _) =>
                  match H.get b with
                  | some (.cells _ true) => some (.sl (some (H.next, 0)) (len + n) (len + n) size, H'.drop b)
                  | _ => none
                | none => none
              else none
            | none => none
          else none
        | none => none
      | none => none
    | _ => none
  | .copy size d x =>
    match d.ev T with
    | .sl a len _ _ =>
      match lenOfA (x.ev T) with
      | some k =>
        let n := Nat.min k len
        match XOp.src H size n (x.ev T) with
        | some new =>
          match a with
          | some (b, o) => (H.write b o new).map fun H => (.i .i64 n, H)
          | none => if n = 0 then some (.i .i64 n, H) else none
        | none => none
      | none => none
    | _ => none
  | .clrs z x =>
    match x.ev T with
    | .sl none _ _ _ => some (und, H)
    | .sl (some (b, o)) n _ _ => if n = 0 then some (und, H) else (H.write b o (repl n z)).map fun H => (und, H)
    | _ => none
  | .clrm x =>
    match x.ev T with
    | .m none => some (und, H)
    | .m (some r) => match H.get r with | some (.map _ cl) => some (und, H.set r (.map [] cl)) | _ => none
    | _ => none
  | .del kd m k =>
    if keyOk kd (k.ev T) = false then none else
    match m.ev T with
    | .m none => some (und, H)
    | .m (some r) =>
      match H.get r with
      | some (.map es cl) =>
        match mfind H kd (k.ev T) es 0 with
        | some (some (i, _)) => some (und, H.set r (.map (es.eraseIdx i) cl))
        | some none => some (und, H)
        | none => none
      | _ => none
    | _ => none
  | .mput kd m k v =>
    if keyOk kd (k.ev T) = false then none else
    match m.ev T with
    | .m (some r) =>
      match H.get r with
      | some (.map es cl) =>
        match mfind H kd (k.ev T) es 0 with
        | some (some (i, _)) => some (und, H.set r (.map (es.modify i fun e => (k.ev T, v.ev T, e.2.2)) cl))
        | some none => some (und, H.set r (.map (es ++ [(k.ev T, v.ev T, cl)]) (cl + 1)))
        | none => none
      | _ => none
    | _ => none
  | _ => none

abbrev CallF := AV → List AV → AH → Option (AV × AH)

/-- One operation. -/
def XOp.run (call : CallF) (T : Tm) (H : AH) (o : XOp) : Option (AV × AH) :=
  match o with
  | .call f args => call (f.ev T) (args.map (·.ev T)) H
  | .store .. | .append .. | .copy .. | .clrs .. | .clrm .. | .del .. | .mput .. => o.turn T H
  | .alloc .. | .box .. | .bslice .. | .mkmap | .mkslice .. | .cs2b .. =>
    match o.make T with
    | some f => some ((f H.next).1, H.alloc (f H.next).2)
    | none => none
  | _ => (o.look T H).map fun v => (v, H)

def XOper.wanted (o : XOper) (T : Tm) : Bool :=
  match o.guard with
  | none => true
  | some (g, want) => match T.get g with | .b x => x == want | _ => false

def runOps (call : CallF) : List XOper → Tm → AH → Option (Tm × AH)
  | [], T, H => some (T, H)
  | o :: r, T, H =>
    if o.wanted T then
      match o.op.run call T H with
      | some (v, H') => runOps call r (T.put o.dst v) H'
      | none => none
    else runOps call r (T.put o.dst und) H

def iter : Nat → (Tm → AH → Option (XExit × Tm × AH)) → Tm → AH → Option (XExit × Tm × AH)
  | 0, _, _, _ => none
  | n + 1, f, T, H =>
    match f T H with
    | none => none
    | some (.norm, T', H') => iter n f T' H'
    | some r => some r

def setParams : Tm → List Nat → List AV → Tm
  | T, p :: ps, v :: vs => setParams (T.set p v) ps vs
  | T, _, _ => T

/-- Does it turn the heap, or make a block? Does it read the heap? -/
def XOp.eff : XOp → Bool
  | .call .. | .store .. | .append .. | .copy .. | .clrs .. | .clrm .. | .del .. | .mput .. => true
  | _ => false
def XOp.mk : XOp → Bool
  | .alloc .. | .box .. | .bslice .. | .mkmap | .mkslice .. | .cs2b .. => true
  | _ => false
def XOp.reads : XOp → Bool
  | .load .. | .lookup .. | .lenm .. | .cb2s .. => true
  | _ => false

structure Watch where
  ix : Nat
  op : XOp
  T : Tm
  v : AV

def watchOk (H : AH) : List Watch → Bool
  | [] => true
  | x :: r => (match x.op.look x.T H with | some v => sameV v x.v | none => false) && watchOk H r

/-- A region whose order is open: its operations in one order; what reads the heap is asked anew behind each turn of the heap that may come before it. What makes a block gives it a name that was set aside. -/
def runDraw (call : CallF) (base : Nat) : List XOper → List Watch → Tm → AH → Option (Tm × AH)
  | [], _, T, H => some (T, H)
  | o :: r, W, T, H =>
    if o.wanted T then
      if o.op.mk then
        match o.op.make T with
        | some f =>
          if watchOk (H.set (base + o.ix) (f (base + o.ix)).2) (W.filter fun x => !o.bef.contains x.ix) then
            runDraw call base r (W.filter fun x => !o.bef.contains x.ix) (T.put o.dst (f (base + o.ix)).1) (H.set (base + o.ix) (f (base + o.ix)).2)
          else none
        | none => none
      else
      match o.op.run call T H with
      | some (v, H') =>
        if o.op.eff then
          if watchOk H' (W.filter fun x => !o.bef.contains x.ix) then runDraw call base r (W.filter fun x => !o.bef.contains x.ix) (T.put o.dst v) H' else none
        else runDraw call base r (if o.op.reads then ⟨o.ix, o.op, T, v⟩ :: W else W) (T.put o.dst v) H
      | none => none
    else runDraw call base r W (T.put o.dst und) H

def execC (call : CallF) (lf : Nat) : XC → Tm → AH → Option (XExit × Tm × AH)
  | .skip, T, H => some (.norm, T, H)
  | .region ops, T, H => (runOps call ops T H).map fun (T, H) => (.norm, T, H)
  | .draw ops, T, H => (runDraw call H.next ops [] T { H with next := H.next + ops.length }).map fun (T, H) => (.norm, T, H)
  | .seq a b, T, H =>
    match execC call lf a T H with
    | some (.norm, T', H') => execC call lf b T' H'
    | r => r
  | .cond c a b, T, H =>
    match c.ev T with
    | .b true => execC call lf a T H
    | .b false => execC call lf b T H
    | _ => none
  | .block id b, T, H =>
    match execC call lf b T H with
    | some (.exit j, T', H') => if j = id then some (.norm, T', H') else some (.exit j, T', H')
    | r => r
  | .loop b, T, H => iter lf (fun T H => execC call lf b T H) T H
  | .rangeFn f ps asg body, T, H =>
    match f.ev T with
    | .fn (.func g) first cap =>
      match call (.fn (.func g) first cap) [.fn (.yield H.next) [] []] (H.alloc (.loop .ready none ps asg body T)) with
      | some (_, H') =>
        match H'.get H.next with
        | some (.loop st pend _ _ _ _) =>
          if st = .busy then none else
          match pend with
          | none => some (.norm, T, H'.drop H.next)
          | some e => some (e, T, H'.drop H.next)
        | _ => none
      | none => none
    | _ => none
  | .exit id, T, H => some (.exit id, T, H)
  | .ret, T, H => some (.ret, T, H)

def XRes.get (T : Tm) (H : AH) : XRes → Option AV
  | .t n => some (T.get n)
  | .cell a agg n =>
    match T.get a with
    | .p (some (b, o)) =>
      match H.get b with
      | some (.cells c _) => if agg then (takeAt c o n).map .agg else c[o]?
      | _ => none
    | _ => none
def resL (T : Tm) (H : AH) : List XRes → Option (List AV)
  | [] => some []
  | r :: rs => match r.get T H, resL T H rs with | some v, some vs => some (v :: vs) | _, _ => none
def resV : List AV → AV
  | [v] => v
  | vs => .tup vs

def argsT : Nat → List AV → Tm
  | _, [] => []
  | n, v :: vs => (n, v) :: argsT (n + 1) vs

/-- A call: of a function by its number; of a loop's round. 'sp': functions whose answer is told by a fact. -/
def exec (tab : Nat → Option XFun) (sp : Nat → List AV → AH → Option (AV × AH)) : Nat → CallF
  | 0, _, _, _ => none
  | k + 1, f, args, H =>
    match f with
    | .fn (.func g) first cap =>
      match tab g with
      | some F =>
        match execC (exec tab sp k) k F.body (argsT 0 (first ++ args ++ cap)) H with
        | some (.norm, T, H') | some (.ret, T, H') => (resL T H' F.results).map fun vs => (resV vs, H')
        | _ => none
      | none => sp g (first ++ args ++ cap) H
    | .fn (.yield l) [] [] =>
      match H.get l with
      | some (.loop .ready pend ps asg body T) =>
        if ps.length = args.length then
          match execC (exec tab sp k) k asg (setParams T ps args) H with
          | some (.norm, T1, H1) =>
            match H1.get l with
            | some (.loop .ready p1 q1 a1 b1 T0) =>
              match execC (exec tab sp k) k body T1 (H1.set l (.loop .busy p1 q1 a1 b1 T0)) with
              | some (e, _, H2) =>
                match H2.get l with
                | some (.loop .busy _ q2 a2 b2 T2) =>
                  some (.b (decide (e = .norm)), H2.set l (.loop (if e = .norm then .ready else .done) (if e = .norm then none else some e) q2 a2 b2 T2))
                | _ => none
              | none => none
            | _ => none
          | _ => none
        else none
      | _ => none
    | _ => none
end Go.Proofs.Ytjheedfobmlalaa.E
