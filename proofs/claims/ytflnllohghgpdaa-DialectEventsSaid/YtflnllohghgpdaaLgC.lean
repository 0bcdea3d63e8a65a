import Derived.Test.YtflnllohghgpdaaLgA
/-
  From a program's code to 'SCode': sizes for types, numbers of one's own for functions, and the look whether a region that draws its order may be told in the text's order.
-/
namespace Lg
open Go
set_option linter.unusedSectionVars false
set_option linter.unusedSimpArgs false
set_option linter.unusedVariables false

structure Ann where
  live : List (Nat × List (Nat × Mode)) := []
  res : List Mode := []
  fx : List Nat := []
  deriving Inhabited

def notAgg : Value → Bool
  | .agg _ => false
  | _ => true
def cell1 : Value → Bool
  | .agg _ | .tuple _ => false
  | _ => true
def dLeaf : Value → D
  | .bool b => .sc (.bool b)
  | .int k n => .sc (.int k n)
  | .string s => .sc (.string s)
  | .pointer none => .nl
  | .slice none 0 0 => .sn
  | .agg _ | .tuple _ => .un
  | _ => .uk
def dVal : Value → D
  | .agg cs => .agg (cs.toList.map dLeaf)
  | v => dLeaf v
def sizeT (P : Program) (t : TypeId) : Option Nat := (P.info? t).map (·.size)
def bytesT (P : Program) (t : TypeId) : Option Nat := (P.info? t).map (·.bytes)
def aggT (P : Program) (t : TypeId) : Option Bool :=
  (P.underlying t).map fun | .struct _ | .array _ _ => true | _ => false
def zeroT (P : Program) (t : TypeId) : Option (List D) :=
  ((P.info? t).bind (·.zero)).bind fun v => if v.cells.toList.all cell1 then some (v.cells.toList.map dLeaf) else none
def elemT (P : Program) (t : TypeId) : Option TypeId :=
  match P.underlying t with | some (.slice e) => some e | _ => none

section
variable (num : FuncId → Option Nat)
def opd : Operand → SOpd
  | .tmp t => .t t
  | .const v => .k (dVal v)
  | .global _ => .k .un
  | .func f => match num f with | some g => .k (.fn g []) | none => .k .un
def opds (xs : Array Operand) : List SOpd := xs.toList.map (opd num)
end
/-- A type's leaves, where two values of it are compared leaf by leaf, and it lies without gaps. -/
def leavesFs (lv : TypeId → Option (List Nat)) : Nat → List Field → Option (List Nat)
  | _, [] => some []
  | off, f :: fs => if f.name ≠ "_" ∧ f.offset = off then (lv f.type).bind fun ks => (leavesFs lv (off + ks.length) fs).map fun l => ks ++ l else none
def sized (P : Program) (t : TypeId) (ks : Option (List Nat)) : Option (List Nat) :=
  ks.bind fun l => if (P.info? t).map (·.size) = some l.length then some l else none
def leavesT (P : Program) : Nat → TypeId → Option (List Nat)
  | 0, _ => none
  | n + 1, t => sized P t (match P.underlying t with
    | some .bool => some [0]
    | some (.int _) => some [1]
    | some .string => some [2]
    | some (.struct fs) => if P.stoodInHeld t = false then leavesFs (leavesT P n) 0 fs.toList else none
    | some (.array len e) => (leavesT P n e).map fun ks => (List.replicate len ks).flatten
    | _ => none)
def placesT (P : Program) (fs : Array Field) : Option (List (Nat × Nat)) := fs.toList.mapM (fun f => (P.info? f.type).map fun i => (f.offset, i.size))
def partsT (num : FuncId → Option Nat) (pl : List (Nat × Nat)) : List (Nat × Operand) → Option (List (Nat × Nat × SOpd))
  | [] => some []
  | p :: ps => (pl[p.1]?).bind fun q => (partsT num pl ps).map fun l => (q.1, q.2, opd num p.2) :: l
def seqT : TypeDesc → Bool
  | .slice _ | .string => true
  | _ => false
def isU8 (P : Program) (e : TypeId) : Bool := match P.underlying e with | some (.int .u8) => true | _ => false
def zero1T (P : Program) (t : TypeId) : Option D := ((P.info? t).bind (·.zero)).bind fun v => if cell1 v then some (dLeaf v) else none
def compBuiltin (P : Program) (num : FuncId → Option Nat) (b : Builtin) (args : List Operand) (ts : List TypeId) : Option SOp :=
  match b, args, ts with
  | .len, [x], [t] => match P.underlying t with
    | some .string => some (.lens (opd num x))
    | some (.slice _) => some (.len (opd num x))
    | some (.array n _) => some (.mv (.k (.sc (.int .i64 n))))
    | _ => none
  | .append, [x, y], [t, u] => (elemT P t).bind fun e => (sizeT P e).bind fun n => (bytesT P e).bind fun by_ => (P.underlying u).bind fun du => match du with
      | .int _ => (zeroT P e).bind fun z => if 0 < n ∧ 0 < by_ then some (.appz n by_ z (opd num x) (opd num y)) else none
      | du => if seqT du ∧ 0 < n ∧ 0 < by_ ∧ (zeroT P e).map List.length = some n then some (.append n by_ (opd num x) (opd num y)) else none
  | .copy, [x, y], [t, _] => (elemT P t).bind fun e => (sizeT P e).bind fun n => if 0 < n then some (.copy n (opd num x) (opd num y)) else none
  | .cap, [x], [t] => (elemT P t).map fun _ => .capn (opd num x)
  | .clear, [x], [t] => (elemT P t).bind fun e => (zero1T P e).map fun z => .clr z (opd num x)
  | .max, [x, y], _ => some (.mx [opd num x, opd num y])
  | .min, [x, y], _ => some (.mn [opd num x, opd num y])
  | _, _, _ => none
def compCall (P : Program) (num : FuncId → Option Nat) (q own : Bool) (c : Call) : Option SOp :=
  match c.callee with
  | .value (.func f) => (num f).map fun g => if q && !own then .callr g (opds num c.args) else .call q g (opds num c.args)
  | .value (.tmp t) => some (.callv q (.t t) (opds num c.args))
  | .builtin b => compBuiltin P num b c.args.toList c.argTypes.toList
  | _ => none
def isZero : Option Operand → Bool
  | some (.const (.int _ 0)) => true
  | _ => false
def mapT (P : Program) (t : TypeId) : Option (TypeId × TypeId) := match P.underlying t with | some (.map k e) => some (k, e) | _ => none
def compOp0 (P : Program) (num : FuncId → Option Nat) (q own : Bool) : Op → Option SOp
  | .move x => some (.mv (opd num x))
  | .assign x => some (.mv (opd num x))
  | .pick c a b => some (.pick (opd num c) (opd num a) (opd num b))
  | .alloc t => (zeroT P t).map .alloc
  | .box t x => (sizeT P t).map fun n => .box n (opd num x)
  | .build t ps => (zeroT P t).bind fun z => match P.underlying t with
    | some (.struct fs) => (placesT P fs).bind fun pl => (partsT num pl ps.toList).map (.build z)
    | some (.array _ e) => (sizeT P e).map fun n => .build z (ps.toList.map fun p => (p.1 * n, n, opd num p.2))
    | _ => none
  | .buildSlice t len ps => (elemT P t).bind fun e => (sizeT P e).bind fun n => (zeroT P e).bind fun z =>
      if len * n ≤ 2 ^ 24 ∧ 0 < n then some (.bsl own n len z (ps.toList.map fun p => (p.1, opd num p.2))) else none
  | .load t x => (aggT P t).bind fun ag => (sizeT P t).map fun n => .load ag n (opd num x)
  | .store t x v => (sizeT P t).map fun n => .store n (opd num x) (opd num v)
  | .nilCheck x => some (.nilc (opd num x))
  | .binOp op t x y _ => match op, P.underlying t with
    | .eql, some (.struct _) | .eql, some (.array _ _) => if P.eqGuardType P.depth t = false then (leavesT P 9 t).map fun ks => .eqa false ks (opd num x) (opd num y) else none
    | .neq, some (.struct _) | .neq, some (.array _ _) => if P.eqGuardType P.depth t = false then (leavesT P 9 t).map fun ks => .eqa true ks (opd num x) (opd num y) else none
    | .eql, some (.pointer _) => (match y with | .const (.pointer none) => some (.eqn false (opd num x)) | _ => none)
    | .neq, some (.pointer _) => (match y with | .const (.pointer none) => some (.eqn true (opd num x)) | _ => none)
    | op, some (.int _) | op, some .string => some (.bin op (opd num x) (opd num y))
    | op, some .bool => some (.binb op (opd num x) (opd num y))
    | _, _ => none
  | .unOp op _ x => some (.una op (opd num x))
  | .convert s d x => match P.underlying s, P.underlying d with
    | some (.slice e), some (.slice _) => if s = d ∧ isU8 P e then some (.cvb (opd num x)) else none
    | some (.int _), some (.int k) => some (.cvi k (opd num x))
    | some .string, some .string => some (.cvs (opd num x))
    | some .string, some (.slice e) => if isU8 P e then some (.s2b (opd num x)) else none
    | some (.slice e), some .string => if isU8 P e then some (.b2s (opd num x)) else none
    | _, _ => none
  | .makeFunc fn first caps => match fn with | .func f => if first.size = 0 then (num f).map fun g => .mkf g (opds num caps) else none | _ => none
  | .makeSlice t l c => match l, c with
    | .tmp a, .tmp b => if a = b then (elemT P t).bind fun e => (sizeT P e).bind fun n => (bytesT P e).bind fun by_ => (zeroT P e).bind fun z => if 0 < n ∧ 0 < by_ then some (.mksl n by_ z (.t a)) else none else none
    | _, _ => none
  | .slice t x lo hi mx => if mx.isSome then (if (lo.isNone || isZero lo) && isZero hi && isZero mx then (match P.underlying t with | some (.slice e) => (sizeT P e).map fun _ => .slz (opd num x) | _ => none) else none) else match P.underlying t with
    | some (.slice e) => (sizeT P e).bind fun n => if 0 < n then some (.slc n (opd num x) (lo.map (opd num)) (hi.map (opd num))) else none
    | some .string => some (.sls (opd num x) (lo.map (opd num)) (hi.map (opd num)))
    | _ => none
  | .fieldAddr t x i => match P.underlying t with
    | some (.struct fs) => (fs[i]?).bind fun f => (sizeT P f.type).bind fun n => if n = 0 then none else some (.fad f.offset (opd num x))
    | _ => none
  | .field t x i => match P.underlying t with
    | some (.struct fs) => (fs[i]?).bind fun f => (sizeT P f.type).bind fun n => (aggT P f.type).map fun ag => .fld ag f.offset n (opd num x)
    | _ => none
  | .indexAddr t x i => match P.underlying t with
    | some (.slice e) => (sizeT P e).bind fun n => if 0 < n then some (.ixs n (opd num x) (opd num i)) else none
    | some (.array len e) => (sizeT P e).map fun n => .ixa len n (opd num x) (opd num i)
    | _ => none
  | .index t x i => match P.underlying t with
    | some .string => some (.ixt (opd num x) (opd num i))
    | some (.array len e) => (sizeT P e).bind fun n => (aggT P e).map fun ag => .ixg ag len n (opd num x) (opd num i)
    | _ => none
  | .extract x i => some (.ext (opd num x) i)
  | .call c => compCall P num q own c
  | .makeMap _ r => if r.isNone then some .mkm else none
  | .mapUpdate t m k v => (mapT P t).bind fun ke => (leavesT P 9 ke.1).bind fun ks => (aggT P ke.1).map fun ag => .mup ag ks (opd num m) (opd num k) (opd num v)
  | .insert t m k v => (mapT P t).bind fun ke => (leavesT P 9 ke.1).bind fun ks => (aggT P ke.1).map fun ag => .mup ag ks (opd num m) (opd num k) (opd num v)
  | .lookup t m k ok => (mapT P t).bind fun ke => (leavesT P 9 ke.1).bind fun ks => (aggT P ke.1).bind fun ag => (zero1T P ke.2).map fun z => .lkp ok ag ks z (opd num m) (opd num k)
  | _ => none
/-- What isn't known is 'bad': the evaluator says nothing there. -/
def compOp (P : Program) (num : FuncId → Option Nat) (q own : Bool) (op : Op) : Option SOp := some ((compOp0 P num q own op).getD .bad)
theorem compOp_some {P : Program} {num : FuncId → Option Nat} {q own : Bool} {op : Op} {s : SOp} (h : compOp P num q own op = some s) : compOp0 P num q own op = some s ∨ s = .bad := by
  unfold compOp at h
  injection h with h
  cases e : compOp0 P num q own op with
  | none => rw [e] at h; exact .inr h.symm
  | some x => rw [e] at h; exact .inl (by rw [← h]; rfl)

/-! ### regions -/
def opTmps (x : Operand) : List Nat := match x with | .tmp t => [t] | _ => []
def readsOf (ops : Array Oper) (o : Oper) : List Nat :=
  o.op.operands.toList.flatMap opTmps ++ (match o.guard with | some (j, _) => (ops[j]?.bind (·.dst)).toList | none => [])
/-- Is what an operation makes used but for being read by calls? -/
def appTo (op : Op) : List Nat := match op with
  | .call c => (match c.callee, c.args.toList with | .builtin .append, x :: _ => opTmps x | _, _ => [])
  | _ => []
def copyTo (op : Op) : List Nat := match op with
  | .call c => (match c.callee, c.args.toList with | .builtin .copy, x :: _ => opTmps x | _, _ => [])
  | _ => []
def isCalls (op : Op) : Bool := match op with
  | .call c => true
  | _ => false
def isBuild (op : Op) : Bool := match op with
  | .build .. => true
  | .buildSlice .. => true
  | _ => false
/-- Calls whose first argument goes along: of functions numbered from 100000 on. -/
def ownTo (num : FuncId → Option Nat) (op : Op) : List Nat := match op with
  | .call c => (match c.callee, c.args.toList with | .value (.func f), x :: _ => (match num f with | some g => if 100000 ≤ g then opTmps x else [] | none => []) | _, _ => [])
  | _ => []
def usedOwn (num : FuncId → Option Nat) (ops : Array Oper) (d : Option Nat) : Bool :=
  match d with
  | none => false
  | some t => ops.toList.any fun o => if isCalls o.op then (appTo o.op ++ (copyTo o.op ++ ownTo num o.op)).contains t else if isBuild o.op then false else (o.op.operands.toList.flatMap opTmps).contains t
def barrier (ops : Array Oper) (b : Array Nat) (i : Nat) : Bool :=
  (List.range ops.size).all fun j => if j < i then (b.getD i 0).testBit j else if i < j then (b.getD j 0).testBit i else true
/-- Constants are told leaf by leaf. -/
def okOpd : Operand → Bool
  | .const (.agg cs) => cs.toList.all fun c => match c with | .agg _ => false | _ => true
  | _ => true
def okOper (nt : Nat → Bool) (o : Oper) : Bool := o.op.operands.toList.all okOpd && (match o.dst with | some d => nt d | none => true)
def compOper (P : Program) (num : FuncId → Option Nat) (nt : Nat → Bool) (ops : Array Oper) (q : Bool) (o : Oper) : Option SOper :=
  if !okOper nt o then none else (compOp P num q (usedOwn num ops o.dst) o.op).bind fun op => match o.guard with
    | none => some { dst := o.dst, op := op, guard := none }
    | some (j, w) => match ops[j]?.bind (·.dst) with
      | some t => some { dst := o.dst, op := op, guard := some (t, w) }
      | none => none
def meets (xs ys : List Nat) : Bool := xs.any fun x => ys.contains x
/-- Two operations, i ahead of j: ordered, or apart in their slots. -/
def pairOk (cs : List (Bool × SOper)) (b : Array Nat) (i j : Nat) : Bool :=
  (b.getD j 0).testBit i || (match cs[i]?, cs[j]? with
  | some x, some y => !(meets (wrS x.2) (rdS y.2 ++ wrS y.2) || meets (wrS y.2) (rdS x.2))
  | _, _ => false)
def drawOk (cs : List (Bool × SOper)) (b : Array Nat) : Bool :=
  (List.range cs.length).all fun j => (List.range j).all fun i => pairOk cs b i j
def edgesOk (ops : Array Oper) : Bool := (List.range ops.size).all fun j => match ops[j]? with
  | some o => o.after.toList.all fun e => !Region.binds .any e || decide (e.on < j)
  | none => true
/-- The operations with whom each is in no order, counted from the last one that all others wait for. -/
def withUn (b : Array Nat) : Nat → Nat → List (Bool × SOper) → List (List Nat × Bool × SOper)
  | _, _, [] => []
  | s, j, (bar, o) :: r => ((List.range (j - s)).filter fun k => !(b.getD j 0).testBit (s + k), bar, o) :: withUn b (if bar then j + 1 else s) (j + 1) r
/-- Calls of functions that take or give pointers: they may turn what those lead to. -/
def isPtrT (P : Program) (t : TypeId) : Bool := match P.underlying t with
  | some (.pointer _) => true
  | some (.map _ _) => true
  | _ => false
def turns (P : Program) (op : Op) : Bool := match op with
  | .call c => (match c.callee with
    | .value (.func f) => (match P.funcs[f]? with | some fn => fn.params.any (isPtrT P) || fn.resultTypes.any (isPtrT P) | none => false)
    | _ => false)
  | _ => false
def compDraw (P : Program) (num : FuncId → Option Nat) (nt : Nat → Bool) (ops : Array Oper) (b : Array Nat) : Nat → List Oper → Option (List (Bool × SOper))
  | _, [] => some []
  | i, o :: r =>
    (compOper P num nt ops (!(barrier ops b i) && !(turns P o.op)) o).bind fun s => (compDraw P num nt ops b (i + 1) r).map fun l => (barrier ops b i, s) :: l
def compReg (P : Program) (num : FuncId → Option Nat) (nt : Nat → Bool) (ops : Array Oper) (draw : Bool) : Option SCode :=
  if draw then
    let b := Region.before ops
    if edgesOk ops then (compDraw P num nt ops b 0 ops.toList).bind fun l => if drawOk l b then some (.dreg (withUn b 0 0 l)) else none
    else none
  else (ops.toList.mapM fun o => compOper P num nt ops false o).map .reg
def firstReg : Code → Nat
  | .region id _ _ => id
  | .seq a b => match a with | .skip => firstReg b | _ => firstReg a
  | .cond _ a _ => firstReg a
  | .block _ c => firstReg c
  | .loop c => firstReg c
  | .scope c => firstReg c
  | _ => 0
def lookN {α : Type} : List (Nat × α) → Nat → Option α
  | [], _ => none
  | (k, a) :: r, n => if k = n then some a else lookN r n
def compC (P : Program) (num : FuncId → Option Nat) (nt : Nat → Bool) (ann : Ann) : Code → Option SCode
  | .skip => some .skip
  | .region _ ops draw => compReg P num nt ops draw
  | .seq a b => (compC P num nt ann a).bind fun a' => (compC P num nt ann b).map fun b' => .seq a' b'
  | .cond c a b => (compC P num nt ann a).bind fun a' => (compC P num nt ann b).map fun b' => .cond (opd num c) a' b'
  | .block id c => (compC P num nt ann c).map fun c' => .block id c'
  | .loop c => (lookN ann.live (firstReg c)).bind fun l => (compC P num nt ann c).map fun c' => .loop l c'
  | .exit id => some (.exit id)
  | .ret => some .ret
  | _ => none
def compRes1 (P : Program) : ResultVar → Option SRes
  | .tmp t => some (.tmp t)
  | .cell a t => (aggT P t).bind fun ag => (sizeT P t).map fun n => .cell a ag n
def compRes (P : Program) : List ResultVar → List Mode → Option (List (SRes × Mode))
  | [], _ => some []
  | r :: rs, ms => (compRes1 P r).bind fun x => (compRes P rs ms.tail).map fun l => (x, ms.headD { own := false }) :: l
def compF (P : Program) (num : FuncId → Option Nat) (ann : Ann) (f : FuncId) : Option SFun :=
  (P.funcs[f]?).bind fun fn => fn.body.bind fun c => if fn.params.size + fn.nfree ≤ fn.ntmps then
      (compC P num (fun d => decide (d < fn.ntmps) && !(ann.fx.contains d)) ann c).bind fun body => (compRes P fn.results.toList ann.res).map fun res =>
        { nargs := fn.params.size + fn.nfree, ntmps := fn.ntmps, fx := ann.fx, res := res, body := body }
    else none
end Lg
