/- From the program's code to the evaluator's: definitions alone. It bears no condition. -/
import Derived.Test.YtjheedfobmlalaaE1
namespace Go.Proofs.Ytjheedfobmlalaa.E
set_option linter.unusedVariables false

def absS : Value → Option AV
  | .bool b => some (.b b)
  | .int k n => some (.i k n)
  | .string s => some (.s s)
  | .pointer none => some (.p none)
  | .slice none 0 0 => some (.sl none 0 0 0)
  | .map none => some (.m none)
  | .nilFunc => some .nf
  | _ => none
def absL : List Value → Option (List AV)
  | [] => some []
  | v :: r => match absS v, absL r with | some a, some l => some (a :: l) | _, _ => none
def absV : Value → Option AV
  | .agg cs => (absL cs.toList).map .agg
  | .func (.func f) a b => if a.size = 0 ∧ b.size = 0 then some (.fn (.func f) [] []) else none
  | v => absS v
section
variable (P : Program)
def cX : Operand → Option XO
  | .tmp t => some (.t t)
  | .const v => (absV v).map .c
  | .global g => if g < P.globals.size then some (.c (.p (some (g, 0)))) else none
  | .func f => some (.c (.fn (.func f) [] []))
def cXL : List Operand → Option (List XO)
  | [] => some []
  | v :: r => match cX P v, cXL r with | some a, some l => some (a :: l) | _, _ => none
def cXO : Option Operand → Option (Option XO)
  | none => some none
  | some x => (cX P x).map some

def tsize (t : TypeId) : Option Nat := (P.info? t).map (·.size)
def tbytes (t : TypeId) : Option Nat := (P.info? t).map (·.bytes)
def tzero (t : TypeId) : Option (List AV) :=
  match P.info? t with
  | some i => match i.zero with | some z => (absL z.cells.toList).bind fun l => if l.length = i.size then some l else none | none => none
  | none => none
def tagg (t : TypeId) : Bool := match P.underlying t with | some (.struct _) | some (.array _ _) => true | _ => false
def isNilC : Nat → Operand → Bool
  | 0, .const (.pointer none) => true
  | 1, .const (.slice none 0 0) => true
  | 2, .const (.map none) => true
  | 3, .const .nilFunc => true
  | _, _ => false
def kindOf (t : TypeId) : Option Nat := match P.underlying t with | some (.int _) => some 0 | some .string => some 1 | some .bool => some 2 | _ => none
/-- A map's key: as kindOf; 3: pointers to what has a size. -/
def kindM (t : TypeId) : Option Nat := match P.underlying t with
  | some (.pointer e) => match P.info? e with
    | some i => if i.size ≠ 0 then some 3 else none
    | none => none
  | _ => kindOf P t

def placesS (fields : Array Field) : List (Nat × Operand) → Option (List (Nat × Nat × XO))
  | [] => some []
  | (i, x) :: r =>
    match fields[i]?, cX P x, placesS fields r with
    | some f, some x, some l => (tsize P f.type).map fun n => (f.offset, n, x) :: l
    | _, _, _ => none
def placesA (size : Nat) : List (Nat × Operand) → Option (List (Nat × Nat × XO))
  | [] => some []
  | (i, x) :: r =>
    match cX P x, placesA size r with
    | some x, some l => some ((i * size, size, x) :: l)
    | _, _ => none

def cBin (op : BinOp) (xt : TypeId) (x y : Operand) : Option XOp :=
  match cX P x, cX P y with
  | some a, some b =>
    match P.underlying xt with
    | some (.int _) | some .string => some (.bin op a b)
    | some .bool =>
      match op with | .eql => some (.beq false a b) | .neq => some (.beq true a b) | _ => none
    | some (.array n e) =>
      match kindOf P e with
      | some kd =>
        if P.eqGuardType P.depth xt = false ∧ tsize P e = some 1 then
          match op with | .eql => some (.eqagg false kd n a b) | .neq => some (.eqagg true kd n a b) | _ => none
        else none
      | none => none
    | some d =>
      match (match d with | .pointer _ => some 0 | .slice _ => some 1 | .map _ _ => some 2 | .func _ _ _ => some 3 | _ => none),
            (match op with | .eql => some false | .neq => some true | _ => none) with
      | some c, some neg =>
        if isNilC c y then some (.nilq c neg a) else if isNilC c x then some (.nilq c neg b) else none
      | _, _ => none
    | none => none
  | _, _ => none

def cConv (src dst : TypeId) (x : Operand) : Option XOp :=
  match cX P x, P.underlying src, P.underlying dst with
  | some a, some (.int _), some (.int k) => some (.cint k a)
  | some a, some .string, some .string => some (.cstr a)
  | some a, some (.slice e), some .string => match P.underlying e with | some (.int .u8) => some (.cb2s a) | _ => none
  | _, _, _ => none

def cBuiltin (b : Builtin) (ats : Array TypeId) (args : List Operand) : Option XOp :=
  match b, ats[0]?, args with
  | .len, some t, [x] =>
    match cX P x, P.underlying t with
    | some a, some .string => some (.lens a)
    | some a, some (.slice _) => some (.lenx a)
    | some a, some (.array n _) => some (.lena n)
    | some a, some (.pointer r) => match P.underlying r with | some (.array n _) => some (.lena n) | _ => none
    | some a, some (.map _ _) => some (.lenm a)
    | _, _ => none
  | .cap, some t, [x] =>
    match cX P x, P.underlying t with
    | some a, some (.slice _) => some (.capx a)
    | _, _ => none
  | .append, some t, [s, x] =>
    match cX P s, cX P x, P.underlying t, (match ats[1]? with | some u => P.underlying u | none => none) with
    | some a, some b, some (.slice e), some (.slice _) | some a, some b, some (.slice e), some .string =>
      match tsize P e, tbytes P e, tzero P e with
      | some n, some m, some _ => if 0 < n ∧ 0 < m then some (.append n m a b) else none
      | _, _, _ => none
    | _, _, _, _ => none
  | .copy, some t, [d, x] =>
    match cX P d, cX P x, P.underlying t with
    | some a, some b, some (.slice e) => (tsize P e).bind fun n => if 0 < n then some (.copy n a b) else none
    | _, _, _ => none
  | .clear, some t, [x] =>
    match cX P x, P.underlying t with
    | some a, some (.slice e) => (tzero P e).map fun z => .clrs z a
    | some a, some (.map _ _) => some (.clrm a)
    | _, _ => none
  | .delete, some t, [m, k] =>
    match cX P m, cX P k, P.underlying t with
    | some a, some b, some (.map kt _) => (kindM P kt).map fun kd => .del kd a b
    | _, _, _ => none
  | .min, _, xs => (cXL P xs).map (.mnmx false)
  | .max, _, xs => (cXL P xs).map (.mnmx true)
  | _, _, _ => none

def cOp (o : Op) : Option XOp :=
  match o with
  | .move x | .assign x => (cX P x).map .mv
  | .pick c a b => match cX P c, cX P a, cX P b with | some c, some a, some b => some (.pick c a b) | _, _, _ => none
  | .alloc t => (tzero P t).map .alloc
  | .box _ x => (cX P x).map .box
  | .build t parts =>
    match tzero P t, P.underlying t with
    | some z, some (.struct fields) => if fields.toList.all fun f => (tsize P f.type).isSome then (placesS P fields parts.toList).map fun l => .build z l else none
    | some z, some (.array _ e) => (tsize P e).bind fun n => (placesA P n parts.toList).map fun l => .build z l
    | _, _ => none
  | .buildSlice t len parts =>
    match P.underlying t with
    | some (.slice e) =>
      match tsize P e, tzero P e, tsize P e >>= fun n => placesA P n parts.toList with
      | some n, some z, some l => if len * n ≤ 16777216 then some (.bslice (repl len z) l len) else none
      | _, _, _ => none
    | _ => none
  | .load t x => match cX P x, tsize P t with | some a, some n => if (P.underlying t).isSome then some (.load (tagg P t) n a) else none | _, _ => none
  | .store t a v => match cX P a, cX P v, tsize P t with | some a, some v, some n => some (.store n a v) | _, _, _ => none
  | .nilCheck x => (cX P x).map .nilc
  | .binOp op xt x y _ => cBin P op xt x y
  | .unOp op _ x => (cX P x).map (.unx op)
  | .convert s d x => cConv P s d x
  | .makeFunc f a b => match cXL P a.toList, cXL P b.toList with | some a, some b => if (match f with | .func _ => true | _ => false) then some (.mkf f a b) else none | _, _ => none
  | .makeMap t r =>
    match r, P.underlying t with
    | none, _ => some .mkmap
    | some (.const (.int _ _)), some (.map _ _) => some .mkmap
    | _, _ => none
  | .makeSlice t l c =>
    match P.underlying t, cX P l, cX P c with
    | some (.slice e), some l, some c =>
      match tzero P e, tbytes P e, tsize P e with | some z, some m, some n => if 0 < n then some (.mkslice z m l c) else none | _, _, _ => none
    | _, _, _ => none
  | .slice t x lo hi mx =>
    match cX P x, cXO P lo, cXO P hi, cXO P mx with
    | some a, some lo, some hi, some mx =>
      match P.underlying t with
      | some .string => if mx.isNone then some (.slstr a lo hi) else none
      | some (.slice e) => (tsize P e).bind fun n => if 0 < n then some (.slsl n a lo hi mx) else none
      | some (.array k e) => (tsize P e).map fun n => .slarr k n a lo hi mx
      | _ => none
    | _, _, _, _ => none
  | .fieldAddr s x f =>
    match P.underlying s, cX P x with
    | some (.struct fields), some a =>
      match fields[f]? with
      | some fd => match tsize P fd.type with | some n => if 0 < n then some (.fadd fd.offset a) else none | none => none
      | none => none
    | _, _ => none
  | .field s x f =>
    match P.underlying s, cX P x with
    | some (.struct fields), some a =>
      match fields[f]? with
      | some fd => if (P.underlying fd.type).isSome then (tsize P fd.type).map fun n => .fld (tagg P fd.type) fd.offset n a else none
      | none => none
    | _, _ => none
  | .indexAddr t x i =>
    match P.underlying t, cX P x, cX P i with
    | some (.array n e), some a, some i => (tsize P e).map fun m => .iarr n m a i
    | some (.slice e), some a, some i => (tsize P e).map fun m => .isl m a i
    | _, _, _ => none
  | .index t x i =>
    match P.underlying t, cX P x, cX P i with
    | some (.array n e), some a, some i => if (P.underlying e).isSome then (tsize P e).map fun m => .idxa (tagg P e) n m a i else none
    | some .string, some a, some i => some (.idxs a i)
    | _, _, _ => none
  | .lookup t x k ok =>
    match P.underlying t, cX P x, cX P k with
    | some (.map kt e), some a, some k =>
      match kindM P kt, P.info? e with
      | some kd, some i => (i.zero.bind absV).map fun z => .lookup kd z a k ok
      | _, _ => none
    | _, _, _ => none
  | .mapUpdate t m k v =>
    match P.underlying t, cX P m, cX P k, cX P v with
    | some (.map kt _), some m, some k, some v => (kindM P kt).map fun kd => .mput kd m k v
    | _, _, _, _ => none
  | .extract x i => (cX P x).map fun a => .ext a i
  | .call c =>
    match c.callee with
    | .value f => match cX P f, cXL P c.args.toList with | some f, some l => some (.call f l) | _, _ => none
    | .builtin b => cBuiltin P b c.argTypes c.args.toList
    | .invoke _ _ => none
  | _ => none

def befOf (ops : Array Oper) (j : Nat) : List Nat := (List.range ops.size).filter fun i => ((Region.before ops).getD j 0).testBit i
def cGuard (ops : Array Oper) (o : Oper) : Option (Option (Nat × Bool)) :=
  match o.guard with
  | none => some none
  | some (j, w) => match (ops[j]?).bind (·.dst) with | some d => some (some (d, w)) | none => none
def cOpD (o : Op) : XOp := (cOp P o).getD .bad
def cOpers (N : Nat) (ops : Array Oper) (bef : Nat → List Nat) : List Nat → Option (List XOper)
  | [] => some []
  | i :: r =>
    match ops[i]? with
    | some o =>
      match cGuard ops o, cOpers N ops bef r with
      | some g, some l => if o.dst.all (· < N) then some (⟨o.dst, cOpD P o.op, g, i, bef i⟩ :: l) else none
      | _, _ => none
    | none => none

/-- An order of a region's operations: what turns nothing first; what makes a block as late as may be. -/
def pickOrder (kind : Nat → Nat) (bef : Nat → List Nat) : Nat → List Nat → List Nat → List Nat
  | 0, _, acc => acc
  | k + 1, left, acc =>
    let ready := left.filter fun i => (bef i).all fun j => !left.contains j
    let late := fun i => left.all fun j => kind j == 0 || kind j == 3 || (bef j).contains i
    match (ready.find? fun i => kind i == 0).orElse fun _ => (ready.find? fun i => kind i == 1).orElse fun _ => (ready.find? fun i => kind i == 2).orElse fun _ => (ready.find? late).orElse fun _ => ready.head? with
    | some i => pickOrder kind bef k (left.filter (· != i)) (acc ++ [i])
    | none => acc
/-- 0: neither reads nor turns; 1: reads; 2: turns; 3: makes a block. -/
def XOp.kind (o : XOp) : Nat := if o.mk then 3 else if o.eff then 2 else if o.reads then 1 else 0

def XO.rd : XO → List Nat
  | .t n => [n]
  | .c _ => []
def XOp.rds : XOp → List Nat
  | .mv x | .box x | .load _ _ x | .nilc x | .nilq _ _ x | .unx _ x | .cint _ x | .cstr x | .cb2s x | .cs2b x | .fadd _ x | .fld _ _ _ x | .ext x _ | .lenx x | .lens x | .lenm x | .capx x
  | .clrs _ x | .clrm x => x.rd
  | .pick c a b | .mput _ c a b => c.rd ++ a.rd ++ b.rd
  | .store _ a b | .bin _ a b | .beq _ a b | .eqagg _ _ _ a b | .mkslice _ _ a b | .iarr _ _ a b | .isl _ a b | .idxa _ _ _ a b | .idxs a b | .lookup _ _ a b _ | .append _ _ a b | .copy _ a b | .del _ a b => a.rd ++ b.rd
  | .build _ ps | .bslice _ ps _ => ps.flatMap fun p => p.2.2.rd
  | .mkf _ a b => a.flatMap XO.rd ++ b.flatMap XO.rd
  | .slstr x lo hi => x.rd ++ lo.toList.flatMap XO.rd ++ hi.toList.flatMap XO.rd
  | .slsl _ x lo hi mx | .slarr _ _ x lo hi mx => x.rd ++ lo.toList.flatMap XO.rd ++ hi.toList.flatMap XO.rd ++ mx.toList.flatMap XO.rd
  | .call f l => f.rd ++ l.flatMap XO.rd
  | .mnmx _ l => l.flatMap XO.rd
  | .alloc _ | .mkmap | .lena _ | .bad => []
def XOper.rds (o : XOper) : List Nat := o.op.rds ++ (match o.guard with | some (g, _) => [g] | none => [])

/-- Are the lists of what comes before what the region's own edges say? -/
def befChk (ops : Array Oper) (bef : Nat → List Nat) (i : Nat) : Bool :=
  match ops[i]? with
  | some o => (o.after.all fun e => !Region.binds .any e || (bef i).contains e.on) && ((bef i).all fun j => o.after.any fun e => Region.binds .any e && (j == e.on || (bef e.on).contains j))
  | none => true

/-- May the region be run in this one order? 'pre': what stands before. -/
def okStep (pre : List XOper) (o : XOper) : Bool :=
  (o.bef.all fun j => pre.any fun p => p.ix == j) &&
  (pre.all fun p => p.ix != o.ix) &&
  (!o.op.eff || pre.all fun p => !(p.op.eff || p.op.mk) || o.bef.contains p.ix) &&
  (!o.op.reads || pre.all fun p => !p.op.mk || o.bef.contains p.ix) &&
  (!o.op.reads || (match (pre.filter fun p => p.op.eff).getLast? with | some p => o.bef.contains p.ix | none => true)) &&
  (pre.all fun p => o.bef.contains p.ix ||
    (match p.dst with | some d => !o.rds.contains d && o.dst != some d | none => true) && (match o.dst with | some d => !p.rds.contains d | none => true))
def okDraw : List XOper → List XOper → Bool
  | _, [] => true
  | pre, o :: r => okStep pre o && okDraw (pre ++ [o]) r

/-- No range over a function within. -/
def XC.flat : XC → Bool
  | .seq a b | .cond _ a b => a.flat && b.flat
  | .block _ b | .loop b => b.flat
  | .rangeFn .. => false
  | _ => true

def comp (N : Nat) : Code → Option XC
  | .skip => some .skip
  | .region _ ops false => (cOpers P N ops (fun _ => []) (List.range ops.size)).map .region
  | .region _ ops true =>
    match cOpers P N ops (befOf ops) (pickOrder (fun i => match ops[i]? with | some o => (cOpD P o.op).kind | none => 0) (befOf ops) ops.size (List.range ops.size) []) with
    | some l => if okDraw [] l && l.length == ops.size && (List.range ops.size).all (fun i => befChk ops (befOf ops) i && l.any fun o => o.ix == i) then some (.draw l) else none
    | none => none
  | .seq a b => match comp N a, comp N b with | some a, some b => some (.seq a b) | _, _ => none
  | .cond c a b => match cX P c, comp N a, comp N b with | some c, some a, some b => some (.cond c a b) | _, _, _ => none
  | .block id b => (comp N b).map (.block id)
  | .loop b => (comp N b).map .loop
  | .rangeFunc f ps asg body =>
    match cX P f, comp N asg, comp N body with
    | some f, some a, some b => if ps.all (· < N) && (a.flat && b.flat) then some (.rangeFn f ps.toList a b) else none
    | _, _, _ => none
  | .exit id => some (.exit id)
  | .ret => some .ret
  | _ => none
/-- Code that ends by a jump to a label. -/
def compT (N l : Nat) : Code → Option XC
  | .seq a b => match comp P N a, compT N l b with | some a, some b => some (.seq a b) | _, _ => none
  | .goto l' => if l' = l then some .skip else none
  | _ => none
/-- A body that jumps back to its beginning is a loop. -/
def compB (N : Nat) : Code → Option XC
  | .scope (.seq (.label l) r) => (compT P N l r).map .loop
  | c => comp P N c

def cRes : ResultVar → Option XRes
  | .tmp t => some (.t t)
  | .cell a t => if (P.underlying t).isSome then (tsize P t).map fun n => .cell a (tagg P t) n else none
def cResL : List ResultVar → Option (List XRes)
  | [] => some []
  | r :: rs => match cRes P r, cResL rs with | some a, some l => some (a :: l) | _, _ => none
def compF (f : FuncId) : Option XFun :=
  match P.funcs[f]? with
  | some fn =>
    match fn.body with
    | some c =>
      match compB P fn.ntmps c, cResL P fn.results.toList with
      | some b, some r => if fn.name == "runtime.NumGoroutine" then none else some ⟨b, r⟩
      | _, _ => none
    | none => none
  | none => none
end
end Go.Proofs.Ytjheedfobmlalaa.E
