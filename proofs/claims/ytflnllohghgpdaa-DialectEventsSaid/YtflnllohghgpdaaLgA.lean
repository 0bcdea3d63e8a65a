import Derived.Calls
import Derived.Orders
/-
  A small evaluator over data: what a Go function's code comes to, told over trees of data, without memory.
  'SCode' is code with sizes for types; 'evFun' tells a function's results, and what its pointers hold behind it.
-/
namespace Lg
open Go
set_option linter.unusedSectionVars false
set_option linter.unusedSimpArgs false
set_option linter.unusedVariables false

inductive D where
  | sc (v : Value)
  | agg (ds : List D)
  | tup (ds : List D)
  | sl (sz : Nat) (ds : List D)
  | osl (wr : Bool) (sz : Nat) (ds : List D)
  | obx (ds : List D)
  | ep (ds : List D)
  | nl
  | sn
  | rf (id sz off len : Nat)
  | pt (id sz e off : Nat)
  | fn (f : Nat) (ds : List D)
  | omp (ks vs : List D)
  | mp (id : Nat)
  | uk
  | un
  deriving Inhabited

inductive Ob where
  | bx (ds : List D)
  | ow (wr : Bool) (sz : Nat) (ds : List D)
  | mpo (ks vs : List D)
  | dead
  deriving Inhabited

def D.cells : D → List D
  | .agg ds => ds
  | d => [d]

def D.int (k : IntKind) (n : Int) : D := .sc (.int k n)
def D.bool (b : Bool) : D := .sc (.bool b)
def D.str (l : List UInt8) : D := .sc (.string ⟨⟨l⟩⟩)

inductive SOpd where
  | t (n : Nat)
  | k (d : D)
  deriving Inhabited

inductive SOp where
  | mv (x : SOpd)
  | pick (c a b : SOpd)
  | alloc (z : List D)
  | box (n : Nat) (x : SOpd)
  | build (z : List D) (ps : List (Nat × Nat × SOpd))
  | bsl (own : Bool) (sz len : Nat) (z : List D) (ps : List (Nat × SOpd))
  | load (ag : Bool) (n : Nat) (x : SOpd)
  | store (n : Nat) (x v : SOpd)
  | nilc (x : SOpd)
  | bin (op : BinOp) (x y : SOpd)
  | binb (op : BinOp) (x y : SOpd)
  | eqa (neg : Bool) (ks : List Nat) (x y : SOpd)
  | eqn (neg : Bool) (x : SOpd)
  | una (op : UnOp) (x : SOpd)
  | cvi (k : IntKind) (x : SOpd)
  | cvs (x : SOpd)
  | s2b (x : SOpd)
  | b2s (x : SOpd)
  | cvb (x : SOpd)
  | mkf (f : Nat) (caps : List SOpd)
  | mksl (sz bytes : Nat) (z : List D) (l : SOpd)
  | slc (sz : Nat) (x : SOpd) (lo hi : Option SOpd)
  | sls (x : SOpd) (lo hi : Option SOpd)
  | slz (x : SOpd)
  | fad (off : Nat) (x : SOpd)
  | fld (ag : Bool) (off n : Nat) (x : SOpd)
  | ixs (sz : Nat) (x i : SOpd)
  | ixa (len sz : Nat) (x i : SOpd)
  | ixt (x i : SOpd)
  | ixg (ag : Bool) (len n : Nat) (x i : SOpd)
  | ext (x : SOpd) (i : Nat)
  | call (q : Bool) (f : Nat) (xs : List SOpd)
  | callv (q : Bool) (f : SOpd) (xs : List SOpd)
  | len (x : SOpd)
  | lens (x : SOpd)
  | append (sz bytes : Nat) (x y : SOpd)
  | copy (sz : Nat) (x y : SOpd)
  | mx (xs : List SOpd)
  | mn (xs : List SOpd)
  | mkm
  | mup (ag : Bool) (ks : List Nat) (m k v : SOpd)
  | lkp (ok ag : Bool) (ks : List Nat) (z : D) (m k : SOpd)
  | clr (z : D) (x : SOpd)
  | callr (f : Nat) (xs : List SOpd)
  | capn (x : SOpd)
  | appz (sz bytes : Nat) (z : List D) (x n : SOpd)
  | bad
  deriving Inhabited

structure SOper where
  dst : Option Nat
  op : SOp
  guard : Option (Nat × Bool)
  deriving Inhabited

/-- How a live slot, or a result, is told: as it is read, or as its holder's own; of a nil slice, of so many cells; 'weak': not to be written. -/
structure Mode where
  own : Bool
  sz : Nat := 0
  weak : Bool := false
  deriving Inhabited

inductive SCode where
  | skip
  | reg (ops : List SOper)
  | dreg (ops : List (List Nat × Bool × SOper))
  | seq (a b : SCode)
  | cond (c : SOpd) (a b : SCode)
  | block (id : Nat) (c : SCode)
  | loop (live : List (Nat × Mode)) (c : SCode)
  | exit (id : Nat)
  | ret
  deriving Inhabited

inductive SRes where
  | tmp (t : Nat)
  | cell (t : Nat) (ag : Bool) (n : Nat)
  deriving Inhabited

structure SFun where
  nargs : Nat
  ntmps : Nat
  fx : List Nat
  res : List (SRes × Mode)
  body : SCode
  deriving Inhabited

abbrev Env := List (Nat × D)
def lk : Env → Nat → D
  | [], _ => .un
  | (a, d) :: r, t => if a = t then d else lk r t
def ov (E : Env) : SOpd → D
  | .t n => lk E n
  | .k d => d
def ovs (E : Env) (xs : List SOpd) : List D := xs.map (ov E)

/-! ### numbers -/
def binI (op : BinOp) (k : IntKind) (a b : Int) : Option Value :=
  match op with
  | .add => some (.int k (k.wrap (a + b)))
  | .sub => some (.int k (k.wrap (a - b)))
  | .mul => some (.int k (k.wrap (a * b)))
  | .quo => if b = 0 then none else some (.int k (k.wrap (a.tdiv b)))
  | .rem => if b = 0 then none else some (.int k (a.tmod b))
  | .and => some (.int k (k.wrap (BitVec.ofInt k.bits a &&& BitVec.ofInt k.bits b).toNat))
  | .or => some (.int k (k.wrap (BitVec.ofInt k.bits a ||| BitVec.ofInt k.bits b).toNat))
  | .xor => some (.int k (k.wrap (BitVec.ofInt k.bits a ^^^ BitVec.ofInt k.bits b).toNat))
  | .andNot => some (.int k (k.wrap (BitVec.ofInt k.bits a &&& ~~~ BitVec.ofInt k.bits b).toNat))
  | .eql => some (.bool (a == b))
  | .neq => some (.bool (a != b))
  | .lss => some (.bool (decide (a < b)))
  | .leq => some (.bool (decide (a ≤ b)))
  | .gtr => some (.bool (decide (a > b)))
  | .geq => some (.bool (decide (a ≥ b)))
  | _ => none
def shI (op : BinOp) (k : IntKind) (a b : Int) : Option Value :=
  match op with
  | .shl => if b < 0 then none else some (.int k (k.wrap (a * 2 ^ (min b.toNat k.bits))))
  | .shr => if b < 0 then none else some (.int k (a.fdiv (2 ^ (min b.toNat k.bits))))
  | _ => none
def strMax : Nat := 4611686018427387904
def binS (op : BinOp) (x y : ByteArray) : Option Value :=
  match op with
  | .add => if x.data.toList.length + y.data.toList.length ≤ strMax then some (.string ⟨⟨x.data.toList ++ y.data.toList⟩⟩) else none
  | .eql => some (.bool (x.data.toList == y.data.toList))
  | .neq => some (.bool (x.data.toList != y.data.toList))
  | _ => none
def binB (op : BinOp) (a b : Bool) : Option Value :=
  match op with
  | .eql => some (.bool (a == b))
  | .neq => some (.bool (a != b))
  | _ => none
def binD (op : BinOp) (x y : D) : Option D :=
  match op, x, y with
  | .shl, .sc (.int k a), .sc (.int _ b) => (shI .shl k a b).map .sc
  | .shr, .sc (.int k a), .sc (.int _ b) => (shI .shr k a b).map .sc
  | op, .sc (.int k a), .sc (.int k' b) => if k = k' then (binI op k a b).map .sc else none
  | op, .sc (.string a), .sc (.string b) => (binS op a b).map .sc
  | _, _, _ => none
def binbD (op : BinOp) (x y : D) : Option D :=
  match x, y with
  | .sc (.bool a), .sc (.bool b) => (binB op a b).map .sc
  | _, _ => none
def unaD (op : UnOp) (x : D) : Option D :=
  match op, x with
  | .neg, .sc (.int k n) => some (.sc (.int k (k.wrap (0 - n))))
  | .not, .sc (.bool b) => some (.sc (.bool !b))
  | _, _ => none
def cviD (k : IntKind) : D → Option D
  | .sc (.int _ n) => some (.sc (.int k (k.wrap n)))
  | _ => none
def mxI (a b : Int) : Int := if b > a then b else a
def mnI (a b : Int) : Int := if b < a then b else a
def mxD : List D → Option D
  | [.sc (.int k a), .sc (.int _ b)] => some (.sc (.int k (mxI a b)))
  | _ => none
def mnD : List D → Option D
  | [.sc (.int k a), .sc (.int _ b)] => some (.sc (.int k (mnI a b)))
  | _ => none
/-- Leaves that are compared: bools (0), numbers (1), texts (2). -/
def eqLeaf : Nat → D → D → Option Bool
  | 0, .sc (.bool a), .sc (.bool b) => some (a == b)
  | 1, .sc (.int k a), .sc (.int k' b) => if k = k' then some (a == b) else none
  | 2, .sc (.string a), .sc (.string b) => some (a.data.toList == b.data.toList)
  | _, _, _ => none
def eqLeaves : List Nat → List D → List D → Option Bool
  | [], [], [] => some true
  | k :: ks, a :: as, b :: bs => (eqLeaf k a b).bind fun x => (eqLeaves ks as bs).map fun y => x && y
  | _, _, _ => none
def eqaD (neg : Bool) (ks : List Nat) : D → D → Option D
  | .agg as, .agg bs => (eqLeaves ks as bs).map fun b => .sc (.bool (b != neg))
  | _, _ => none

def isSomeTrue : Option Bool → Bool
  | some true => true
  | _ => false
/-- Keys of a map. -/
def eqK (ag : Bool) (ks : List Nat) (a b : D) : Option Bool :=
  if ag then (match a, b with | .agg as, .agg bs => eqLeaves ks as bs | _, _ => none) else eqLeaves ks [a] [b]
def findK (ag : Bool) (ks : List Nat) (k : D) : List D → Option (Option Nat)
  | [] => some none
  | d :: ds => (eqK ag ks k d).bind fun b => if b then some (some 0) else (findK ag ks k ds).map (Option.map (· + 1))
def putK (r : Option Nat) (kk vv : List D) (k v : D) : Ob := match r with
  | some i => .mpo (kk.set i k) (vv.set i v)
  | none => .mpo (kk ++ [k]) (vv ++ [v])
def getK (ok : Bool) (z : D) (vv : List D) : Option Nat → Option D
  | some i => (vv[i]?).map fun v => if ok then .tup [v, .sc (.bool true)] else v
  | none => some (if ok then .tup [z, .sc (.bool false)] else z)

/-! ### slices, cells -/
def u8OfD : D → Option UInt8
  | .sc (.int .u8 n) => if 0 ≤ n ∧ n < 256 then some (UInt8.ofNat n.toNat) else none
  | _ => none
def bytesOfD : List D → Option (List UInt8)
  | [] => some []
  | d :: ds => (u8OfD d).bind fun b => (bytesOfD ds).map fun l => b :: l
def part (ag : Bool) (n : Nat) (cs : List D) : Option D :=
  if ag then (if n ≤ cs.length then some (.agg (cs.take n)) else none)
  else match cs with | c :: _ => some c | [] => none
/-- The cells that a pointer leads to, from it on. -/
def cellsAt (H : List Ob) : D → Option (List D)
  | .ep ds => some ds
  | .pt id sz e off => match H[id]? with
    | some (.bx ds) => if e = 0 then some (ds.drop off) else none
    | some (.ow _ sz' ds) => if sz = sz' then (match ds[e]? with | some d => some (d.cells.drop off) | none => none) else none
    | _ => none
  | _ => none
/-- A slice's content: its elements' cells, its elements. -/
def slD (H : List Ob) : D → Option (Nat × List D)
  | .sl sz ds => some (sz, ds)
  | .osl _ sz ds => some (sz, ds)
  | .sn => some (0, [])
  | .rf id sz off len => match H[id]? with
    | some (.ow _ sz' ds) => if (off = 0 ∨ sz = sz') ∧ off + len ≤ ds.length then some (sz', (ds.drop off).take len) else none
    | _ => none
  | _ => none
def lenD : D → Option Nat
  | .sl _ ds => some ds.length
  | .osl _ _ ds => some ds.length
  | .sn => some 0
  | .rf _ _ _ len => some len
  | .sc (.string s) => some s.data.toList.length
  | _ => none
def isStr : D → Bool
  | .sc (.string _) => true
  | _ => false
def natOf : D → Option Nat
  | .sc (.int _ n) => if 0 ≤ n then some n.toNat else none
  | _ => none
/-- Bounds lo, hi of a slice of so many. -/
def bnds (n : Nat) (lo hi : Option D) : Option (Nat × Nat) :=
  match (match hi with | some h => natOf h | none => some n), (match lo with | some l => natOf l | none => some 0) with
  | some h, some l => if l ≤ h ∧ h ≤ n then some (l, h) else none
  | _, _ => none
def isNil {α : Type} : List α → Bool
  | [] => true
  | _ => false
/-- May it be a cell? -/
def isCellD : D → Bool
  | .un | .agg _ | .tup _ => false
  | _ => true
-- Is there no tree of one's own in a value?
mutual
def noTree : D → Bool
  | .osl .. | .obx _ | .omp .. | .un => false
  | .agg ds | .tup ds | .fn _ ds => noTrees ds
  | _ => true
def noTrees : List D → Bool
  | [] => true
  | d :: ds => noTree d && noTrees ds
end
def putCells (cs : List D) (off : Nat) (vs : List D) : Option (List D) :=
  if off + vs.length ≤ cs.length then some (cs.take off ++ (vs ++ cs.drop (off + vs.length))) else none
def fillD (sz : Nat) : List D → List (Nat × D) → Option (List D)
  | cs, [] => some cs
  | cs, (i, v) :: r => if v.cells.length = sz then (putCells cs (i * sz) v.cells).bind fun cs' => fillD sz cs' r else none
def buildD : List D → List (Nat × Nat × D) → Option (List D)
  | cs, [] => some cs
  | cs, (off, n, v) :: r => if v.cells.length = n then (putCells cs off v.cells).bind fun cs' => buildD cs' r else none
/-- Rows of so many cells. -/
def chunks (ag : Bool) (sz : Nat) : Nat → List D → List D
  | 0, _ => []
  | n + 1, cs => (if ag then .agg (cs.take sz) else cs.headD .un) :: chunks ag sz n (cs.drop sz)
def elemOf (z : List D) : D := match z with | [d] => d | ds => .agg ds

/-! ### trees unfolded into objects, and folded back -/
mutual
def unf : D → List Ob → D × List Ob
  | .osl wr sz ds, H => (.rf H.length sz 0 ds.length, H ++ [.ow wr sz ds])
  | .obx ds, H => let r := unfs ds H; (.pt r.2.length 0 0 0, r.2 ++ [.bx r.1])
  | .omp ks vs, H => (.mp H.length, H ++ [.mpo ks vs])
  | .agg ds, H => let r := unfs ds H; (.agg r.1, r.2)
  | .tup ds, H => let r := unfs ds H; (.tup r.1, r.2)
  | .fn f ds, H => let r := unfs ds H; (.fn f r.1, r.2)
  | d, H => (d, H)
def unfs : List D → List Ob → List D × List Ob
  | [], H => ([], H)
  | d :: ds, H => let r := unf d H; let rs := unfs ds r.2; (r.1 :: rs.1, rs.2)
end
-- Is a value free of what is of this call alone?
mutual
def isRO : D → Bool
  | .osl .. | .obx .. | .omp .. | .rf .. | .pt .. | .mp .. => false
  | .agg ds | .tup ds | .fn _ ds => isROs ds
  | _ => true
def isROs : List D → Bool
  | [] => true
  | d :: ds => isRO d && isROs ds
end
-- Read alone: what is the call's own is told by its content; 'fz': it's no more written.
mutual
def rof (fz : Bool) : D → List Ob → Option (D × List Ob)
  | .rf id sz off len, H => match H[id]? with
    | some (.ow wr sz' ds) => if (off = 0 ∨ sz = sz') ∧ off + len ≤ ds.length then
        some (.sl sz' ((ds.drop off).take len), if fz then H.set id (.ow false sz' ds) else (let _ := wr; H)) else none
    | _ => none
  | .osl _ sz ds, H => if fz then none else some (.sl sz ds, H)
  | .agg ds, H => (rofs fz ds H).map fun r => (.agg r.1, r.2)
  | .tup ds, H => (rofs fz ds H).map fun r => (.tup r.1, r.2)
  | .fn f ds, H => (rofs fz ds H).map fun r => (.fn f r.1, r.2)
  | .pt .., _ => none
  | .mp .., _ => none
  | .obx _, _ => none
  | .omp .., _ => none
  | d, H => some (d, H)
def rofs (fz : Bool) : List D → List Ob → Option (List D × List Ob)
  | [], H => some ([], H)
  | d :: ds, H => (rof fz d H).bind fun r => (rofs fz ds r.2).map fun rs => (r.1 :: rs.1, rs.2)
end
def thr (f : D → List Ob → Option (D × List Ob)) : List D → List Ob → Option (List D × List Ob)
  | [], H => some ([], H)
  | d :: ds, H => (f d H).bind fun r => (thr f ds r.2).map fun rs => (r.1 :: rs.1, rs.2)
/-- Handed over: what is the call's own goes along, and is its no more. -/
def fld : Nat → D → List Ob → Option (D × List Ob)
  | 0, _, _ => none
  | n + 1, .rf id sz off len, H => match H[id]? with
    | some (.ow wr sz' ds) => if off = 0 ∧ sz = sz' then (if len = ds.length then some (.osl wr sz' ds, H.set id .dead) else if wr && decide (len ≤ ds.length) then some (.osl true sz' (ds.take len), H.set id .dead) else none) else none
    | _ => none
  | n + 1, .pt id _ e off, H => match H[id]? with
    | some (.bx ds) => if e = 0 ∧ off = 0 then (thr (fld n) ds (H.set id .dead)).map fun r => (.obx r.1, r.2) else none
    | _ => none
  | n + 1, .agg ds, H => (thr (fld n) ds H).map fun r => (.agg r.1, r.2)
  | n + 1, .tup ds, H => (thr (fld n) ds H).map fun r => (.tup r.1, r.2)
  | n + 1, .fn f ds, H => (thr (fld n) ds H).map fun r => (.fn f r.1, r.2)
  | _ + 1, .mp id, H => match H[id]? with
    | some (.mpo ks vs) => some (.omp ks vs, H.set id .dead)
    | _ => none
  | _ + 1, .osl .., _ => none
  | _ + 1, .obx _, _ => none
  | _ + 1, .omp .., _ => none
  | _ + 1, .ep _, _ => none
  | _ + 1, d, H => some (d, H)
def depth : Nat := 12

mutual
def idsD : D → List Nat
  | .rf id .. => [id]
  | .pt id .. => [id]
  | .mp id => [id]
  | .agg ds | .tup ds | .fn _ ds => idsDs ds
  | _ => []
def idsDs : List D → List Nat
  | [] => []
  | d :: ds => idsD d ++ idsDs ds
end
/-! ### operations -/
def appendY (H : List Ob) (sz : Nat) (y : D) : Option (List D) :=
  match y with
  | .sc (.string s) => if sz = 1 then some (s.data.toList.map fun b => .sc (.int .u8 b.toNat)) else none
  | d => match slD H d with
    | some (sz', ys) => if sz' = sz ∨ isNil ys then some ys else none
    | none => none
def slcD (sz : Nat) (lo hi : Option D) : D → Option D
  | .sl sz' ds => if sz' = sz then (bnds ds.length lo hi).map fun p => .sl sz ((ds.drop p.1).take (p.2 - p.1)) else none
  | .sn => (bnds 0 lo hi).map fun _ => .sn
  | .rf id sz' off len => if sz' = sz then (bnds len lo hi).map fun p => .rf id sz (off + p.1) (p.2 - p.1) else none
  | _ => none
def storeD (H : List Ob) (n : Nat) (v : D) : D → Option (D × Option (Nat × Ob))
  | .pt id sz e off => match H[id]? with
    | some (.bx ds) => if e = 0 ∧ v.cells.length = n then (putCells ds off v.cells).map fun ds' => (.un, some (id, .bx ds')) else none
    | some (.ow true sz' ds) => if sz = sz' ∧ v.cells.length = n ∧ isRO v then
        (ds[e]?).bind fun d => (if off = 0 ∧ n = sz' then some v else if d.cells.length = sz' then (putCells d.cells off v.cells).map .agg else none).map fun d' =>
          (.un, some (id, .ow true sz' (ds.set e d'))) else none
    | _ => none
  | _ => none
def appendD (H : List Ob) (sz bytes : Nat) (ys : List D) : D → Option (D × Option (Nat × Ob))
  | .sn => if ys.length * bytes ≤ 140737488355328 then some (.osl true sz ys, none) else none
  | .osl wr sz' ds => if sz' = sz ∧ (ds.length + ys.length) * bytes ≤ 140737488355328 then some (.osl wr sz (ds ++ ys), none) else none
  | .rf id sz' off len => match H[id]? with
    | some (.ow wr sz'' ds) => if off = 0 ∧ sz' = sz ∧ sz'' = sz ∧ len ≤ ds.length ∧ (wr = true ∨ len = ds.length) ∧ (len + ys.length) * bytes ≤ 140737488355328 then
        some (.osl wr sz (ds.take len ++ ys), some (id, .dead)) else none
    | _ => none
  | _ => none
def copyD (H : List Ob) (sz : Nat) (ys : List D) : D → Option (D × Option (Nat × Ob))
  | .sn => some (.sc (.int .i64 0), none)
  | .rf id sz' off len => match H[id]? with
    | some (.ow true sz'' ds) => if sz' = sz ∧ sz'' = sz ∧ off + len ≤ ds.length then
        some (.sc (.int .i64 (min ys.length len : Nat)), some (id, .ow true sz (ds.take off ++ (ys.take (min ys.length len) ++ ds.drop (off + min ys.length len))))) else none
    | _ => none
  | _ => none
def clrD (H : List Ob) (z : D) : D → Option (D × Option (Nat × Ob))
  | .sn => some (.tup [], none)
  | .rf id sz off len => match H[id]? with
    | some (.ow true sz'' ds) => if sz = 1 ∧ sz'' = 1 ∧ off + len ≤ ds.length then some (.tup [], some (id, .ow true 1 (ds.take off ++ (List.replicate len z ++ ds.drop (off + len))))) else none
    | _ => none
  | _ => none
/-- Cells that are told by what they hold: a slice of one's own among them is written no more. -/
def frz1 (cs : List D) (H : List Ob) : Option (List D × Option (Nat × Ob)) :=
  if isROs cs then some (cs, none) else match idsDs cs with
    | id :: ids => if ids.all (fun i => decide (i = id)) then match H[id]? with
      | some (.ow _ sz ds) => (rofs false cs H).map fun r => (r.1, some (id, .ow false sz ds))
      | _ => none
      else none
    | _ => none
-- A result that is read alone.
mutual
def roD : D → Option D
  | .osl _ sz ds => some (.sl sz ds)
  | .obx _ => none
  | .omp .. => none
  | .agg ds => (roDs ds).map .agg
  | .tup ds => (roDs ds).map .tup
  | .fn f ds => (roDs ds).map (.fn f)
  | d => some d
def roDs : List D → Option (List D)
  | [] => some []
  | d :: ds => (roD d).bind fun x => (roDs ds).map fun xs => x :: xs
end
/-- An operation's value (what it makes is told as a tree), and the object that it turns. -/
def evX (cl : Nat → List D → List Ob → Option D) (E : Env) (H : List Ob) : SOp → Option (D × Option (Nat × Ob))
  | .mv x => if noTree (ov E x) then some (ov E x, none) else none
  | .pick c a b => match ov E c with | .sc (.bool x) => if noTree (if x then ov E a else ov E b) then some (if x then ov E a else ov E b, none) else none | _ => none
  | .alloc z => if isROs z then some (.obx z, none) else none
  | .box n x => if (ov E x).cells.length = n ∧ noTrees (ov E x).cells ∧ (ov E x).cells.all isCellD then some (.obx (ov E x).cells, none) else none
  | .build z ps => if noTrees (ps.map fun p => ov E p.2.2) then (buildD z (ps.map fun p => (p.1, p.2.1, ov E p.2.2))).map fun ds => (.agg ds, none) else none
  | .bsl own sz len z ps => (fillD sz (List.replicate len z).flatten (ps.map fun p => (p.1, ov E p.2))).bind fun cs =>
      (frz1 cs H).bind fun q => if z.length = sz ∧ cs.all isCellD ∧ q.1.all isCellD ∧ noTrees (ps.map fun p => ov E p.2) then
        some (if own then .osl true sz (chunks (sz != 1) sz len q.1) else .sl sz (chunks (sz != 1) sz len q.1), q.2)
      else none
  | .load ag n x => ((cellsAt H (ov E x)).bind (part ag n)).map fun d => (d, none)
  | .store n x v => if noTree (ov E v) && (ov E v).cells.all isCellD then storeD H n (ov E v) (ov E x) else none
  | .nilc x => match ov E x with | .pt id sz e off => some (.pt id sz e off, none) | .ep ds => some (.ep ds, none) | _ => none
  | .bin op x y => (binD op (ov E x) (ov E y)).map fun d => (d, none)
  | .binb op x y => (binbD op (ov E x) (ov E y)).map fun d => (d, none)
  | .eqa neg ks x y => (eqaD neg ks (ov E x) (ov E y)).map fun d => (d, none)
  | .eqn neg x => match ov E x with
    | .nl => some (.sc (.bool (!neg)), none)
    | .pt .. => some (.sc (.bool neg), none)
    | _ => none
  | .una op x => (unaD op (ov E x)).map fun d => (d, none)
  | .cvi k x => (cviD k (ov E x)).map fun d => (d, none)
  | .cvs x => match ov E x with | .sc (.string s) => some (.sc (.string s), none) | _ => none
  | .s2b x => match ov E x with
    | .sc (.string s) => some (.osl true 1 (s.data.toList.map fun b => .sc (.int .u8 b.toNat)), none)
    | _ => none
  | .b2s x => (slD H (ov E x)).bind fun p => (bytesOfD p.2).map fun l => (.sc (.string ⟨⟨l⟩⟩), none)
  | .cvb x => match ov E x with
    | .rf id sz off len => match H[id]? with
      | some (.ow wr sz' ds) => if 0 < len then some (.rf id sz off len, some (id, .ow wr sz' ds)) else none
      | _ => none
    | _ => none
  | .mkf f caps => if noTrees (ovs E caps) then some (.fn f (ovs E caps), none) else none
  | .mksl sz bytes z l => (natOf (ov E l)).bind fun n =>
      if n * bytes ≤ 140737488355328 ∧ isROs z ∧ z.length = sz ∧ z.all isCellD then some (.osl true sz (List.replicate n (elemOf z)), none) else none
  | .slc sz x lo hi => (slcD sz (lo.map (ov E)) (hi.map (ov E)) (ov E x)).map fun d => (d, none)
  | .sls x lo hi => match ov E x with
    | .sc (.string s) => (bnds s.data.toList.length (lo.map (ov E)) (hi.map (ov E))).map fun p => (.sc (.string ⟨⟨(s.data.toList.drop p.1).take (p.2 - p.1)⟩⟩), none)
    | _ => none
  | .slz x => if isStr (ov E x) then none else (lenD (ov E x)).map fun _ => (.sn, none)
  | .fad off x => match ov E x with
    | .ep ds => some (.ep (ds.drop off), none)
    | .pt id sz e o => some (.pt id sz e (o + off), none)
    | _ => none
  | .fld ag off n x => match ov E x with | .agg ds => if noTrees ds then (part ag n (ds.drop off)).map fun d => (d, none) else none | _ => none
  | .ixs sz x i => (natOf (ov E i)).bind fun j => match ov E x with
    | .sl sz' ds => if sz' = sz then (ds[j]?).map fun d => (.ep d.cells, none) else none
    | .rf id sz' off len => if sz' = sz ∧ j < len then some (.pt id sz (off + j) 0, none) else none
    | _ => none
  | .ixa len sz x i => (natOf (ov E i)).bind fun j => if j < len then (match ov E x with
    | .ep ds => some (.ep (ds.drop (j * sz)), none)
    | .pt id s e o => some (.pt id s e (o + j * sz), none)
    | _ => none) else none
  | .ixt x i => (natOf (ov E i)).bind fun j => match ov E x with
    | .sc (.string s) => (s.data.toList[j]?).map fun b => (.sc (.int .u8 b.toNat), none)
    | _ => none
  | .ixg ag len n x i => (natOf (ov E i)).bind fun j => if j < len then (match ov E x with
    | .agg ds => if noTrees ds then (part ag n (ds.drop (j * n))).map fun d => (d, none) else none
    | _ => none) else none
  | .ext x i => match ov E x with | .tup ds => (ds[i]?).bind fun d => if noTree d then some (d, none) else none | _ => none
  | .call true f xs => (cl f (ovs E xs) H).map fun d => (d, none)
  | .callv true f xs => match ov E f with | .fn g caps => (cl g (ovs E xs ++ caps) H).map fun d => (d, none) | _ => none
  | .len x => if isStr (ov E x) then none else (lenD (ov E x)).map fun (n : Nat) => (.sc (.int .i64 (n : Int)), none)
  | .lens x => if isStr (ov E x) then (lenD (ov E x)).map fun (n : Nat) => (.sc (.int .i64 (n : Int)), none) else none
  | .append sz bytes x y => (appendY H sz (ov E y)).bind fun ys => appendD H sz bytes ys (ov E x)
  | .copy sz x y => (appendY H sz (ov E y)).bind fun ys => copyD H sz ys (ov E x)
  | .mx xs => (mxD (ovs E xs)).map fun d => (d, none)
  | .mn xs => (mnD (ovs E xs)).map fun d => (d, none)
  | .mkm => some (.omp [] [], none)
  | .clr z x => clrD H z (ov E x)
  | .appz sz bytes z x l => match ov E x with
    | .sn => (natOf (ov E l)).bind fun n => if 0 < n ∧ n * bytes ≤ 140737488355328 ∧ isROs z ∧ z.length = sz ∧ z.all isCellD then some (.osl true sz (List.replicate n (elemOf z)), none) else none
    | _ => none
  | .capn x => match ov E x with | .sn => some (.sc (.int .i64 0), none) | _ => none
  | .callr f xs => (cl f (ovs E xs) H).bind fun d => (roD d).map fun d' => (d', none)
  | .mup ag ks m k v => match ov E m with
    | .mp id => match H[id]? with
      | some (.mpo kk vv) => if isRO (ov E k) && isRO (ov E v) && noTree (ov E k) && noTree (ov E v) && isSomeTrue (eqK ag ks (ov E k) (ov E k)) then (findK ag ks (ov E k) kk).map fun r => (.un, some (id, putK r kk vv (ov E k) (ov E v))) else none
      | _ => none
    | _ => none
  | .lkp ok ag ks z m k => match ov E m with
    | .mp id => match H[id]? with
      | some (.mpo kk vv) => if noTree (ov E k) && isSomeTrue (eqK ag ks (ov E k) (ov E k)) then (findK ag ks (ov E k) kk).bind fun r => (getK ok z vv r).map fun d => (d, none) else none
      | _ => none
    | _ => none
  | _ => none
/-- A call that may turn what came in by pointers. -/
def isCall : SOp → Bool
  | .call false .. | .callv false .. => true
  | _ => false
def evCall (cl : Nat → List D → List Ob → Option (D × List Ob)) (E : Env) (H : List Ob) : SOp → Option (D × List Ob)
  | .call false f xs => cl f (ovs E xs) H
  | .callv false f xs => match ov E f with | .fn g caps => cl g (ovs E xs ++ caps) H | _ => none
  | _ => none

/-- The slots that an operation reads, and those that it writes. -/
def rdO : SOpd → List Nat
  | .t n => [n]
  | .k _ => []
def rdOs (xs : List SOpd) : List Nat := xs.flatMap rdO
def rdM : Option SOpd → List Nat
  | some x => rdO x
  | none => []
def rdX : SOp → List Nat
  | .mv x | .box _ x | .load _ _ x | .nilc x | .eqn _ x | .una _ x | .cvi _ x | .cvs x | .s2b x | .b2s x | .cvb x | .fad _ x | .fld _ _ _ x | .ext x _ | .len x | .lens x | .slz x | .clr _ x | .capn x => rdO x
  | .mksl _ _ _ x => rdO x
  | .pick c a b => rdO c ++ (rdO a ++ rdO b)
  | .alloc _ | .mkm | .bad => []
  | .mup _ _ m k v => rdO m ++ (rdO k ++ rdO v)
  | .lkp _ _ _ _ m k => rdO m ++ rdO k
  | .build _ ps => rdOs (ps.map (·.2.2))
  | .bsl _ _ _ _ ps => rdOs (ps.map (·.2))
  | .appz _ _ _ x y | .store _ x y | .bin _ x y | .binb _ x y | .eqa _ _ x y | .append _ _ x y | .copy _ x y | .ixs _ x y | .ixa _ _ x y | .ixt x y | .ixg _ _ _ x y => rdO x ++ rdO y
  | .mkf _ xs | .call _ _ xs | .callr _ xs | .mx xs | .mn xs => rdOs xs
  | .callv _ f xs => rdO f ++ rdOs xs
  | .slc _ x lo hi | .sls x lo hi => rdO x ++ (rdM lo ++ rdM hi)
def rdS (s : SOper) : List Nat := rdX s.op ++ (match s.guard with | some (t, _) => [t] | none => [])
def wrS (s : SOper) : List Nat := s.dst.toList ++ (match s.op with | .append _ _ (.t t) _ => [t] | _ => [])

/-! ### code -/
inductive Ex where
  | nrm
  | exit (id : Nat)
  | ret
  deriving Inhabited
structure Cl where
  r : Nat → List D → List Ob → Option D
  w : Nat → List D → List Ob → Option (D × List Ob)
def putE (dst : Option Nat) (d : D) (E : Env) : Env := match dst with | none => E | some t => (t, d) :: E
def putH (u : Option (Nat × Ob)) (H : List Ob) : List Ob := match u with | none => H | some (id, o) => H.set id o
/-- Is an operation done: its guard. -/
def wanted (E : Env) : Option (Nat × Bool) → Option Bool
  | none => some true
  | some (t, b) => match lk E t with | .sc (.bool x) => some (x == b) | .tup [] => some false | _ => none
/-- The slot whose tree an operation takes over. -/
def eats (E : Env) : SOp → Option Nat
  | .append _ _ (.t t) _ => match lk E t with | .osl .. => some t | _ => none
  | _ => none
/-- An operation of a region, no call of the greater kind: what it turns. -/
def stepX (cl : Cl) (o : SOper) (E : Env) (H : List Ob) : Option (D × Option Nat × Option (Nat × Ob)) :=
  match wanted E o.guard with
  | some true => (evX cl.r E H o.op).map fun r => (r.1, eats E o.op, r.2)
  | some false => some (.tup [], none, none)
  | none => none
def stepO (cl : Cl) (o : SOper) (E : Env) (H : List Ob) : Option (Env × List Ob) :=
  if isCall o.op then match wanted E o.guard with
    | some true => (evCall cl.w E H o.op).map fun r => (putE o.dst r.1 E, r.2)
    | some false => some (putE o.dst (.tup []) E, H)
    | none => none
  else (stepX cl o E H).map fun r => match o.dst with
    | none => (putE r.2.1 .un E, putH r.2.2 H)
    | some t => let u := unf r.1 (putH r.2.2 H); ((t, u.1) :: putE r.2.1 .un E, u.2)
def stepsO (cl : Cl) : List SOper → Env → List Ob → Option (Env × List Ob)
  | [], E, H => some (E, H)
  | o :: os, E, H => (stepO cl o E H).bind fun r => stepsO cl os r.1 r.2
def settle : List Nat → Env → List Ob → Env × List Ob
  | [], E, H => (E, H)
  | t :: ts, E, H => if isRO (lk E t) then settle ts E H else let u := unf (lk E t) H; settle ts ((t, u.1) :: E) u.2
/-- The objects that an operation looks into. -/
def accX (E : Env) : SOp → List Nat
  | .load _ _ x => idsD (ov E x)
  | .store _ x _ => idsD (ov E x)
  | .b2s x => idsD (ov E x)
  | .cvb x => idsD (ov E x)
  | .append _ _ x y => idsD (ov E x) ++ idsD (ov E y)
  | .copy _ x y => idsD (ov E x) ++ idsD (ov E y)
  | .call _ _ xs => idsDs (ovs E xs)
  | .callr _ xs => idsDs (ovs E xs)
  | .bsl _ sz len z ps => match fillD sz (List.replicate len z).flatten (ps.map fun p => (p.1, ov E p.2)) with | some cs => idsDs cs | none => []
  | .callv _ f xs => idsD (ov E f) ++ idsDs (ovs E xs)
  | .clr _ x => idsD (ov E x)
  | .mup _ _ m _ _ => idsD (ov E m)
  | .lkp _ _ _ _ m _ => idsD (ov E m)
  | _ => []
def apart (xs ys : List Nat) : Bool := xs.all fun x => !(ys.contains x)
-- Are two of the same shape? (sound, not complete)
def eqSc : Value → Value → Bool
  | .bool a, .bool b => a == b
  | .int k a, .int k' b => decide (k = k') && decide (a = b)
  | .string a, .string b => decide (a.data.toList = b.data.toList)
  | _, _ => false
mutual
def eqD : D → D → Bool
  | .sc a, .sc b => eqSc a b
  | .agg a, .agg b => eqDs a b
  | .tup a, .tup b => eqDs a b
  | .sl n a, .sl m b => decide (n = m) && eqDs a b
  | .osl w n a, .osl v m b => decide (w = v) && (decide (n = m) && eqDs a b)
  | .obx a, .obx b => eqDs a b
  | .ep a, .ep b => eqDs a b
  | .nl, .nl => true
  | .sn, .sn => true
  | .rf a b c d, .rf a' b' c' d' => decide (a = a') && (decide (b = b') && (decide (c = c') && decide (d = d')))
  | .pt a b c d, .pt a' b' c' d' => decide (a = a') && (decide (b = b') && (decide (c = c') && decide (d = d')))
  | .fn f a, .fn g b => decide (f = g) && eqDs a b
  | .mp a, .mp b => decide (a = b)
  | .uk, .uk => true
  | .un, .un => true
  | _, _ => false
def eqDs : List D → List D → Bool
  | [], [] => true
  | a :: as, b :: bs => eqD a b && eqDs as bs
  | _, _ => false
end
/-- Objects that hold what they held: boxes alone are asked. -/
def sameBx : Option Ob → Option Ob → Bool
  | some (.bx a), some (.bx b) => eqDs a b
  | _, _ => false
def kept (H H' : List Ob) : List Nat := (List.range H.length).filter fun i => sameBx H[i]? H'[i]?
/-- What was looked into, and turned: each operation since the last one that all others wait for; of what kind: any (0), one that turns nothing (1), a call (2: and what it left as it was). -/
abbrev Lo := List Nat × List Nat × Nat
abbrev Log := List Lo
def noclB (x y : Lo) : Bool :=
  if x.2.2 = 2 then decide (y.2.2 = 1) && y.1.all (fun i => x.2.1.contains i)
  else if y.2.2 = 2 then decide (x.2.2 = 1) && x.1.all (fun i => y.2.1.contains i)
  else apart x.2.1 y.1 && apart y.2.1 x.1
def clash (lg : Log) (un : List Nat) (l : Lo) : Bool :=
  un.any fun i => match lg[i]? with
    | some x => !(noclB x l)
    | none => true
def idOf (u : Option (Nat × Ob)) : List Nat := match u with | none => [] | some (id, _) => [id]
def accS (E : Env) (o : SOper) : List Nat := if isSomeTrue (wanted E o.guard) then accX E o.op else []
def inertX (r : D × Option Nat × Option (Nat × Ob)) : Bool := noTree r.1 && r.2.1.isNone && r.2.2.isNone
def loX (E : Env) (o : SOper) (r : D × Option Nat × Option (Nat × Ob)) : Lo := (accS E o, idOf r.2.2, if inertX r then 1 else 0)
def stepsD (cl : Cl) : List (List Nat × Bool × SOper) → Log → List Nat → Env → List Ob → Option (Env × List Ob)
  | [], _, ps, E, H => some (settle ps E H)
  | (un, bar, o) :: os, lg, ps, E, H =>
    if bar then (let s := settle ps E H; (stepO cl o s.1 s.2).bind fun r => stepsD cl os [] [] r.1 r.2)
    else if isCall o.op then
      (if (rdS o).all (fun t => noTree (lk E t)) then (stepO cl o E H).bind fun r =>
        if clash lg un ([], kept H r.2, 2) then none else stepsD cl os (lg ++ [([], kept H r.2, 2)]) (ps ++ o.dst.toList) r.1 r.2
      else none)
    else (stepX cl o E H).bind fun r =>
      if clash lg un (loX E o r) then none
      else stepsD cl os (lg ++ [loX E o r]) (ps ++ o.dst.toList) (putE o.dst r.1 (putE r.2.1 .un E)) (putH r.2.2 H)
def canon (m : Mode) : D → D
  | .sn => if m.sz = 0 then .sn else .osl (!m.weak) m.sz []
  | .osl wr sz ds => .osl (wr && !m.weak) sz ds
  | d => d
def foldM (m : Mode) (d : D) (H : List Ob) : Option (D × List Ob) :=
  if m.own then (fld depth d H).map fun r => (canon m r.1, r.2) else rof true d H
def foldL : List (Nat × Mode) → Env → List Ob → Option (List D × List Ob)
  | [], _, H => some ([], H)
  | (t, m) :: r, E, H => let p := (foldM m (lk E t) H).getD (.un, H); (foldL r E p.2).map fun q => (p.1 :: q.1, q.2)
def unfL : List (Nat × Mode) → List D → List Ob → Env × List Ob
  | (t, _) :: r, d :: ds, H => let u := unf d H; let q := unfL r ds u.2; ((t, u.1) :: q.1, q.2)
  | _, _, H => ([], H)
def iter (body : List D → Option (Ex × List D)) : Nat → List D → Option (Ex × List D)
  | 0, _ => none
  | n + 1, ts => match body ts with
    | some (.nrm, ts') => iter body n ts'
    | r => r
def rounds : Nat := 9223372036854775808
def evC (cl : Cl) : SCode → Env → List Ob → Option (Ex × Env × List Ob)
  | .skip, E, H => some (.nrm, E, H)
  | .reg ops, E, H => (stepsO cl ops E H).map fun r => (.nrm, r.1, r.2)
  | .dreg ops, E, H => (stepsD cl ops [] [] E H).map fun r => (.nrm, r.1, r.2)
  | .seq a b, E, H => match evC cl a E H with
    | some (.nrm, E', H') => evC cl b E' H'
    | r => r
  | .cond c a b, E, H => match ov E c with
    | .sc (.bool x) => if x then evC cl a E H else evC cl b E H
    | _ => none
  | .block id c, E, H => match evC cl c E H with
    | some (.exit id', E', H') => if id' = id then some (.nrm, E', H') else some (.exit id', E', H')
    | r => r
  | .loop live c, E, H => (foldL live E H).bind fun t0 =>
      (iter (fun ts => let s := unfL live ts []; match evC cl c s.1 s.2 with
        | some (ex, E', H') => (foldL live E' H').map fun t => (ex, t.1)
        | none => none) rounds t0.1).map fun r => let s := unfL live r.2 []; (r.1, s.1, s.2)
  | .exit id, E, H => some (.exit id, E, H)
  | .ret, E, H => some (.ret, E, H)
def noLoop : SCode → Bool
  | .seq a b => noLoop a && noLoop b
  | .cond _ a b => noLoop a && noLoop b
  | .block _ c => noLoop c
  | .loop .. => false
  | _ => true

/-! ### functions -/
def resD (E : Env) (H : List Ob) : SRes → Option D
  | .tmp t => some (lk E t)
  | .cell t ag n => (cellsAt H (lk E t)).bind (part ag n)
def resDs (E : Env) (H : List Ob) : List (SRes × Mode) → Option (List D)
  | [] => some []
  | (r, _) :: rs => (resD E H r).bind fun d => (resDs E H rs).map fun ds => d :: ds
def foldR : List (SRes × Mode) → List D → List Ob → Option (List D × List Ob)
  | (_, m) :: r, d :: ds, H => (foldM m d H).bind fun p => (foldR r ds p.2).map fun q => (p.1 :: q.1, q.2)
  | [], [], H => some ([], H)
  | _, _, _ => none
def one (ds : List D) : D := match ds with | [d] => d | ds => .tup ds
def envFrom : Nat → List D → Env
  | _, [] => []
  | n, d :: ds => (n, d) :: envFrom (n + 1) ds
def isBx : D → Bool
  | .obx _ => true
  | _ => false
/-- What the pointers that came in hold behind the call: their slots are never set. -/
def outs (fx : List Nat) (E : Env) : Nat → List D → List Ob → Option (List D × List Ob)
  | i, .obx _ :: as, H => if fx.contains i then (fld depth (lk E i) H).bind fun p => (outs fx E (i + 1) as p.2).map fun q => (p.1 :: q.1, q.2) else none
  | i, _ :: as, H => outs fx E (i + 1) as H
  | _, [], H => some ([], H)
def ended : Option (Ex × Env × List Ob) → Option (Env × List Ob)
  | some (.nrm, E, H) => some (E, H)
  | some (.ret, E, H) => some (E, H)
  | _ => none
def evFun (cl : Cl) (s : SFun) (args : List D) : Option (D × List D) :=
  if args.length = s.nargs then
    let u := unfs args []
    (ended (evC cl s.body (envFrom 0 u.1) u.2)).bind fun r =>
      (resDs r.1 r.2 s.res).bind fun ds => (foldR s.res ds r.2).bind fun p => (outs s.fx r.1 0 args p.2).map fun q => (one p.1, q.1)
  else none
def evInl (cl : Cl) (s : SFun) (args : List D) (H : List Ob) : Option (D × List Ob) :=
  if args.length = s.nargs ∧ noLoop s.body then
    (ended (evC cl s.body (envFrom 0 args) H)).bind fun r => (resDs r.1 r.2 s.res).map fun ds => (one ds, r.2)
  else none

/-! ### calls -/
inductive Sem1 where
  | model (fz : Bool) (m : List D → Option (D × List D))
  | modelO (m : List D → Option (D × List D))
  | inl (s : SFun)
def argF (fz : Bool) (d : D) (H : List Ob) : Option (D × List Ob) :=
  match d with
  | .pt .. => fld depth d H
  | _ => rof fz d H
-- Does nothing of a value hang on cells that others may write?
mutual
def plain : D → Bool
  | .sl _ ds => isNil ds
  | .ep ds => isNil ds
  | .osl _ _ ds => plains ds
  | .obx ds => plains ds
  | .omp ks vs => plains ks && plains vs
  | .agg ds | .tup ds | .fn _ ds => plains ds
  | _ => true
def plains : List D → Bool
  | [] => true
  | d :: ds => plain d && plains ds
end
def isAlive (H : List Ob) (i : Nat) : Bool := match H[i]? with | some .dead => false | none => false | _ => true
def idsRO : List D → List Nat
  | [] => []
  | .pt .. :: ds => idsRO ds
  | d :: ds => idsD d ++ idsRO ds
def restore : List D → List D → List Ob → Option (List Ob)
  | .pt id _ _ _ :: as, .obx ds :: os, H => let u := unfs ds H; restore as os (u.2.set id (.bx u.1))
  | .pt .. :: _, _, _ => none
  | _ :: as, os, H => restore as os H
  | [], [], H => some H
  | [], _, _ => none
def callM (fz : Bool) (m : List D → Option (D × List D)) (args : List D) (H : List Ob) : Option (D × List Ob) :=
  (thr (argF fz) args H).bind fun p => (m p.1).bind fun r =>
    if (fz || (plain r.1 && plains r.2)) && (idsRO args).all (isAlive p.2) then (let u := unf r.1 p.2; (restore args r.2 u.2).map fun H' => (u.1, H')) else none
def callO (m : List D → Option (D × List D)) (args : List D) (H : List Ob) : Option (D × List Ob) :=
  match args with
  | .rf id sz off len :: as => (fld depth (.rf id sz off len) H).bind fun q => (thr (argF true) as q.2).bind fun p => (m (q.1 :: p.1)).bind fun r =>
    if (idsRO as).all (isAlive p.2) then (let u := unf r.1 p.2; (restore args r.2 u.2).map fun H' => (u.1, H')) else none
  | _ => none
def callQ (fz : Bool) (m : List D → Option (D × List D)) (args : List D) (H : List Ob) : Option D :=
  (if fz then (if isROs args then some args else none) else (rofs false args H).map (·.1)).bind fun ts =>
    match m ts with
    | some (r, []) => if fz || plain r then some r else none
    | _ => none
def bound : List Nat → Nat
  | [] => 0
  | n :: ns => Nat.max (n + 1) (bound ns)
def deads (n : Nat) : List Ob := List.replicate n .dead
/-- A function that is walked into, that looks into nothing of its caller's: what it makes besides is dropped. -/
def evInlQ (cl : Cl) (s : SFun) (args : List D) : Option D :=
  if noTrees args then (evInl cl s args (deads (bound (idsDs args)))).bind fun q => if (idsD q.1).all (fun i => (idsDs args).contains i) && noTree q.1 then some q.1 else none else none
def clOf (Γ : Nat → Option Sem1) : Nat → Cl
  | 0 => { r := fun f as H => match Γ f with | some (.model fz m) => callQ fz m as H | _ => none,
           w := fun f as H => match Γ f with | some (.model fz m) => callM fz m as H | some (.modelO m) => callO m as H | _ => none }
  | n + 1 => { r := fun f as H => match Γ f with
                 | some (.model fz m) => callQ fz m as H
                 | some (.inl s) => evInlQ (clOf Γ n) s as
                 | _ => none,
               w := fun f as H => match Γ f with
                 | some (.model fz m) => callM fz m as H
                 | some (.modelO m) => callO m as H
                 | some (.inl s) => evInl (clOf Γ n) s as H
                 | none => none }
end Lg
