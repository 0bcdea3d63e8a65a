import Derived.Calls
import Derived.Orders
import Derived.RowKit3
import Derived.Laws.CopyRow
import Derived.Laws.Cells
import Derived.Lib.FrozenHead
namespace Lg
open Go
set_option linter.unusedSectionVars false
set_option linter.unusedSimpArgs false
set_option linter.unusedVariables false
inductive D where
 | sc (v:Value)
 | agg (ds:List D)
 | tup (ds:List D)
 | sl (sz:Nat) (ds:List D)
 | osl (wr:Bool) (sz:Nat) (ds:List D)
 | obx (ds:List D)
 | ep (ds:List D)
 | nl
 | sn
 | rf (id sz off len:Nat)
 | pt (id sz e off:Nat)
 | fn (f:Nat) (ds:List D)
 | omp (ks vs:List D)
 | mp (id:Nat)
 | uk
 | un
 deriving Inhabited
inductive Ob where
 | bx (ds:List D)
 | ow (wr:Bool) (sz:Nat) (ds:List D)
 | mpo (ks vs:List D)
 | dead
 deriving Inhabited
def D.cells:D→List D
 | .agg ds=>ds
 | d=>[d]
def D.int (k:IntKind) (n:Int):D:= .sc (.int k n)
def D.bool (b:Bool):D:= .sc (.bool b)
def D.str (l:List UInt8):D:= .sc (.string ⟨⟨l⟩⟩)
inductive SOpd where
 | t (n:Nat)
 | k (d:D)
 deriving Inhabited
inductive SOp where
 | mv (x:SOpd)
 | pick (c a b:SOpd)
 | alloc (z:List D)
 | box (n:Nat) (x:SOpd)
 | build (z:List D) (ps:List (Nat×Nat×SOpd))
 | bsl (own:Bool) (sz len:Nat) (z:List D) (ps:List (Nat×SOpd))
 | load (ag:Bool) (n:Nat) (x:SOpd)
 | store (n:Nat) (x v:SOpd)
 | nilc (x:SOpd)
 | bin (op:BinOp) (x y:SOpd)
 | binb (op:BinOp) (x y:SOpd)
 | eqa (neg:Bool) (ks:List Nat) (x y:SOpd)
 | eqn (neg:Bool) (x:SOpd)
 | una (op:UnOp) (x:SOpd)
 | cvi (k:IntKind) (x:SOpd)
 | cvs (x:SOpd)
 | s2b (x:SOpd)
 | b2s (x:SOpd)
 | cvb (x:SOpd)
 | mkf (f:Nat) (caps:List SOpd)
 | mksl (sz bytes:Nat) (z:List D) (l:SOpd)
 | slc (sz:Nat) (x:SOpd) (lo hi:Option SOpd)
 | sls (x:SOpd) (lo hi:Option SOpd)
 | slz (x:SOpd)
 | fad (off:Nat) (x:SOpd)
 | fld (ag:Bool) (off n:Nat) (x:SOpd)
 | ixs (sz:Nat) (x i:SOpd)
 | ixa (len sz:Nat) (x i:SOpd)
 | ixt (x i:SOpd)
 | ixg (ag:Bool) (len n:Nat) (x i:SOpd)
 | ext (x:SOpd) (i:Nat)
 | call (q:Bool) (f:Nat) (xs:List SOpd)
 | callv (q:Bool) (f:SOpd) (xs:List SOpd)
 | len (x:SOpd)
 | lens (x:SOpd)
 | append (sz bytes:Nat) (x y:SOpd)
 | copy (sz:Nat) (x y:SOpd)
 | mx (xs:List SOpd)
 | mn (xs:List SOpd)
 | mkm
 | mup (ag:Bool) (ks:List Nat) (m k v:SOpd)
 | lkp (ok ag:Bool) (ks:List Nat) (z:D) (m k:SOpd)
 | clr (z:D) (x:SOpd)
 | callr (f:Nat) (xs:List SOpd)
 | capn (x:SOpd)
 | appz (sz bytes:Nat) (z:List D) (x n:SOpd)
 | bad
 deriving Inhabited
structure SOper where
 dst:Option Nat
 op:SOp
 guard:Option (Nat×Bool)
 deriving Inhabited
structure Mode where
 own:Bool
 sz:Nat:=0
 weak:Bool:=false
 deriving Inhabited
inductive SCode where
 | skip
 | reg (ops:List SOper)
 | dreg (ops:List (List Nat×Bool×SOper))
 | seq (a b:SCode)
 | cond (c:SOpd) (a b:SCode)
 | block (id:Nat) (c:SCode)
 | loop (live:List (Nat×Mode)) (c:SCode)
 | loopR (live:List Nat) (c:SCode)
 | exit (id:Nat)
 | ret
 deriving Inhabited
inductive SRes where
 | tmp (t:Nat)
 | cell (t:Nat) (ag:Bool) (n:Nat)
 deriving Inhabited
structure SFun where
 nargs:Nat
 ntmps:Nat
 fx:List Nat
 res:List (SRes×Mode)
 body:SCode
 deriving Inhabited
abbrev Env:=List (Nat×D)
def lk:Env→Nat→D
 | [],_=> .un
 | (a,d) :: r,t=>if a=t then d else lk r t
def ov (E:Env):SOpd→D
 | .t n=>lk E n
 | .k d=>d
def ovs (E:Env) (xs:List SOpd):List D:=xs.map (ov E)
def binI (op:BinOp) (k:IntKind) (a b:Int):Option Value :=
 match op with
 | .add=>some (.int k (k.wrap (a+b)))
 | .sub=>some (.int k (k.wrap (a-b)))
 | .mul=>some (.int k (k.wrap (a*b)))
 | .quo=>if b=0 then none else some (.int k (k.wrap (a.tdiv b)))
 | .rem=>if b=0 then none else some (.int k (a.tmod b))
 | .and=>some (.int k (k.wrap (BitVec.ofInt k.bits a &&& BitVec.ofInt k.bits b).toNat))
 | .or=>some (.int k (k.wrap (BitVec.ofInt k.bits a ||| BitVec.ofInt k.bits b).toNat))
 | .xor=>some (.int k (k.wrap (BitVec.ofInt k.bits a ^^^ BitVec.ofInt k.bits b).toNat))
 | .andNot=>some (.int k (k.wrap (BitVec.ofInt k.bits a &&& ~~~ BitVec.ofInt k.bits b).toNat))
 | .eql=>some (.bool (a == b))
 | .neq=>some (.bool (a != b))
 | .lss=>some (.bool (decide (a<b)))
 | .leq=>some (.bool (decide (a≤b)))
 | .gtr=>some (.bool (decide (a>b)))
 | .geq=>some (.bool (decide (a≥b)))
 | _=>none
def shI (op:BinOp) (k:IntKind) (a b:Int):Option Value :=
 match op with
 | .shl=>if b<0 then none else some (.int k (k.wrap (a*2 ^ (min b.toNat k.bits))))
 | .shr=>if b<0 then none else some (.int k (a.fdiv (2 ^ (min b.toNat k.bits))))
 | _=>none
def strMax:Nat:=4611686018427387904
def binS (op:BinOp) (x y:ByteArray):Option Value :=
 match op with
 | .add=>if x.data.toList.length+y.data.toList.length≤strMax then some (.string ⟨⟨x.data.toList++y.data.toList⟩⟩) else none
 | .eql=>some (.bool (x.data.toList == y.data.toList))
 | .neq=>some (.bool (x.data.toList != y.data.toList))
 | _=>none
def binB (op:BinOp) (a b:Bool):Option Value :=
 match op with
 | .eql=>some (.bool (a == b))
 | .neq=>some (.bool (a != b))
 | _=>none
def binD (op:BinOp) (x y:D):Option D :=
 match op,x,y with
 | .shl, .sc (.int k a), .sc (.int _ b)=>(shI .shl k a b).map .sc
 | .shr, .sc (.int k a), .sc (.int _ b)=>(shI .shr k a b).map .sc
 | op, .sc (.int k a), .sc (.int k' b)=>if k=k' then (binI op k a b).map .sc else none
 | op, .sc (.string a), .sc (.string b)=>(binS op a b).map .sc
 | _,_,_=>none
def binbD (op:BinOp) (x y:D):Option D :=
 match x,y with
 | .sc (.bool a), .sc (.bool b)=>(binB op a b).map .sc
 | _,_=>none
def unaD (op:UnOp) (x:D):Option D :=
 match op,x with
 | .neg, .sc (.int k n)=>some (.sc (.int k (k.wrap (0-n))))
 | .not, .sc (.bool b)=>some (.sc (.bool !b))
 | _,_=>none
def cviD (k:IntKind):D→Option D
 | .sc (.int _ n)=>some (.sc (.int k (k.wrap n)))
 | _=>none
def mxI (a b:Int):Int:=if b>a then b else a
def mnI (a b:Int):Int:=if b<a then b else a
def mxD:List D→Option D
 | [.sc (.int k a), .sc (.int _ b)]=>some (.sc (.int k (mxI a b)))
 | _=>none
def mnD:List D→Option D
 | [.sc (.int k a), .sc (.int _ b)]=>some (.sc (.int k (mnI a b)))
 | _=>none
def eqLeaf:Nat→D→D→Option Bool
 | 0, .sc (.bool a), .sc (.bool b)=>some (a == b)
 | 1, .sc (.int k a), .sc (.int k' b)=>if k=k' then some (a == b) else none
 | 2, .sc (.string a), .sc (.string b)=>some (a.data.toList == b.data.toList)
 | _,_,_=>none
def eqLeaves:List Nat→List D→List D→Option Bool
 | [],[],[]=>some true
 | k :: ks,a :: as,b :: bs=>(eqLeaf k a b).bind fun x=>(eqLeaves ks as bs).map fun y=>x && y
 | _,_,_=>none
def eqaD (neg:Bool) (ks:List Nat):D→D→Option D
 | .agg as, .agg bs=>(eqLeaves ks as bs).map fun b=> .sc (.bool (b != neg))
 | _,_=>none
def isSomeTrue:Option Bool→Bool
 | some true=>true
 | _=>false
def eqK (ag:Bool) (ks:List Nat) (a b:D):Option Bool :=
 if ag then (match a,b with | .agg as, .agg bs=>eqLeaves ks as bs | _,_=>none) else eqLeaves ks [a] [b]
def findK (ag:Bool) (ks:List Nat) (k:D):List D→Option (Option Nat)
 | []=>some none
 | d :: ds=>(eqK ag ks k d).bind fun b=>if b then some (some 0) else (findK ag ks k ds).map (Option.map (· + 1))
def putK (r:Option Nat) (kk vv:List D) (k v:D):Ob:=match r with
 | some i=> .mpo (kk.set i k) (vv.set i v)
 | none=> .mpo (kk++[k]) (vv++[v])
def getK (ok:Bool) (z:D) (vv:List D):Option Nat→Option D
 | some i=>(vv[i]?).map fun v=>if ok then .tup [v, .sc (.bool true)] else v
 | none=>some (if ok then .tup [z, .sc (.bool false)] else z)
def u8OfD:D→Option UInt8
 | .sc (.int .u8 n)=>if 0≤n∧n<256 then some (UInt8.ofNat n.toNat) else none
 | _=>none
def bytesOfD:List D→Option (List UInt8)
 | []=>some []
 | d :: ds=>(u8OfD d).bind fun b=>(bytesOfD ds).map fun l=>b :: l
def part (ag:Bool) (n:Nat) (cs:List D):Option D :=
 if ag then (if n≤cs.length then some (.agg (cs.take n)) else none)
 else match cs with | c :: _=>some c | []=>none
def cellsAt (H:List Ob):D→Option (List D)
 | .ep ds=>some ds
 | .pt id sz e off=>match H[id]? with
  | some (.bx ds)=>if e=0 then some (ds.drop off) else none
  | some (.ow _ sz' ds)=>if sz=sz' then (match ds[e]? with | some d=>some (d.cells.drop off) | none=>none) else none
  | _=>none
 | _=>none
def slD (H:List Ob):D→Option (Nat×List D)
 | .sl sz ds=>some (sz,ds)
 | .osl _ sz ds=>some (sz,ds)
 | .sn=>some (0,[])
 | .rf id sz off len=>match H[id]? with
  | some (.ow _ sz' ds)=>if (off=0∨sz=sz')∧off+len≤ds.length then some (sz',(ds.drop off).take len) else none
  | _=>none
 | _=>none
def lenD:D→Option Nat
 | .sl _ ds=>some ds.length
 | .osl _ _ ds=>some ds.length
 | .sn=>some 0
 | .rf _ _ _ len=>some len
 | .sc (.string s)=>some s.data.toList.length
 | _=>none
def isStr:D→Bool
 | .sc (.string _)=>true
 | _=>false
def natOf:D→Option Nat
 | .sc (.int _ n)=>if 0≤n then some n.toNat else none
 | _=>none
def bnds (n:Nat) (lo hi:Option D):Option (Nat×Nat) :=
 match (match hi with | some h=>natOf h | none=>some n),(match lo with | some l=>natOf l | none=>some 0) with
 | some h,some l=>if l≤h∧h≤n then some (l,h) else none
 | _,_=>none
def isNil {α:Type}:List α→Bool
 | []=>true
 | _=>false
def isCellD:D→Bool
 | .un | .agg _ | .tup _=>false
 | _=>true
mutual
def noTree:D→Bool
 | .osl .. | .obx _ | .omp .. | .un=>false
 | .agg ds | .tup ds | .fn _ ds=>noTrees ds
 | _=>true
def noTrees:List D→Bool
 | []=>true
 | d :: ds=>noTree d && noTrees ds
end
def putCells (cs:List D) (off:Nat) (vs:List D):Option (List D) :=
 if off+vs.length≤cs.length then some (cs.take off++(vs++cs.drop (off+vs.length))) else none
def fillD (sz:Nat):List D→List (Nat×D)→Option (List D)
 | cs,[]=>some cs
 | cs,(i,v) :: r=>if v.cells.length=sz then (putCells cs (i*sz) v.cells).bind fun cs'=>fillD sz cs' r else none
def buildD:List D→List (Nat×Nat×D)→Option (List D)
 | cs,[]=>some cs
 | cs,(off,n,v) :: r=>if v.cells.length=n then (putCells cs off v.cells).bind fun cs'=>buildD cs' r else none
def chunks (ag:Bool) (sz:Nat):Nat→List D→List D
 | 0,_=>[]
 | n+1,cs=>(if ag then .agg (cs.take sz) else cs.headD .un) :: chunks ag sz n (cs.drop sz)
def elemOf (z:List D):D:=match z with | [d]=>d | ds=> .agg ds
mutual
def unf:D→List Ob→D×List Ob
 | .osl wr sz ds,H=>(.rf H.length sz 0 ds.length,H++[.ow wr sz ds])
 | .obx ds,H=>let r:=unfs ds H;(.pt r.2.length 0 0 0,r.2++[.bx r.1])
 | .omp ks vs,H=>(.mp H.length,H++[.mpo ks vs])
 | .agg ds,H=>let r:=unfs ds H;(.agg r.1,r.2)
 | .tup ds,H=>let r:=unfs ds H;(.tup r.1,r.2)
 | .fn f ds,H=>let r:=unfs ds H;(.fn f r.1,r.2)
 | d,H=>(d,H)
def unfs:List D→List Ob→List D×List Ob
 | [],H=>([],H)
 | d :: ds,H=>let r:=unf d H;let rs:=unfs ds r.2;(r.1 :: rs.1,rs.2)
end
mutual
def isRO:D→Bool
 | .osl .. | .obx .. | .omp .. | .rf .. | .pt .. | .mp ..=>false
 | .agg ds | .tup ds | .fn _ ds=>isROs ds
 | _=>true
def isROs:List D→Bool
 | []=>true
 | d :: ds=>isRO d && isROs ds
end
mutual
def rof (fz:Bool):D→List Ob→Option (D×List Ob)
 | .rf id sz off len,H=>match H[id]? with
  | some (.ow wr sz' ds)=>if (off=0∨sz=sz')∧off+len≤ds.length then
    some (.sl sz' ((ds.drop off).take len),if fz then H.set id (.ow false sz' ds) else (let _:=wr;H)) else none
  | _=>none
 | .osl _ sz ds,H=>if fz then none else some (.sl sz ds,H)
 | .agg ds,H=>(rofs fz ds H).map fun r=>(.agg r.1,r.2)
 | .tup ds,H=>(rofs fz ds H).map fun r=>(.tup r.1,r.2)
 | .fn f ds,H=>(rofs fz ds H).map fun r=>(.fn f r.1,r.2)
 | .pt ..,_=>none
 | .mp ..,_=>none
 | .obx _,_=>none
 | .omp ..,_=>none
 | d,H=>some (d,H)
def rofs (fz:Bool):List D→List Ob→Option (List D×List Ob)
 | [],H=>some ([],H)
 | d :: ds,H=>(rof fz d H).bind fun r=>(rofs fz ds r.2).map fun rs=>(r.1 :: rs.1,rs.2)
end
def thr (f:D→List Ob→Option (D×List Ob)):List D→List Ob→Option (List D×List Ob)
 | [],H=>some ([],H)
 | d :: ds,H=>(f d H).bind fun r=>(thr f ds r.2).map fun rs=>(r.1 :: rs.1,rs.2)
def fld:Nat→D→List Ob→Option (D×List Ob)
 | 0,_,_=>none
 | n+1, .rf id sz off len,H=>match H[id]? with
  | some (.ow wr sz' ds)=>if off=0∧sz=sz' then (if len=ds.length then some (.osl wr sz' ds,H.set id .dead) else if wr && decide (len≤ds.length) then some (.osl true sz' (ds.take len),H.set id .dead) else none) else none
  | _=>none
 | n+1, .pt id _ e off,H=>match H[id]? with
  | some (.bx ds)=>if e=0∧off=0 then (thr (fld n) ds (H.set id .dead)).map fun r=>(.obx r.1,r.2) else none
  | _=>none
 | n+1, .agg ds,H=>(thr (fld n) ds H).map fun r=>(.agg r.1,r.2)
 | n+1, .tup ds,H=>(thr (fld n) ds H).map fun r=>(.tup r.1,r.2)
 | n+1, .fn f ds,H=>(thr (fld n) ds H).map fun r=>(.fn f r.1,r.2)
 | _+1, .mp id,H=>match H[id]? with
  | some (.mpo ks vs)=>some (.omp ks vs,H.set id .dead)
  | _=>none
 | _+1, .osl ..,_=>none
 | _+1, .obx _,_=>none
 | _+1, .omp ..,_=>none
 | _+1, .ep _,_=>none
 | _+1,d,H=>some (d,H)
def depth:Nat:=12
mutual
def idsD:D→List Nat
 | .rf id ..=>[id]
 | .pt id ..=>[id]
 | .mp id=>[id]
 | .agg ds | .tup ds | .fn _ ds=>idsDs ds
 | _=>[]
def idsDs:List D→List Nat
 | []=>[]
 | d :: ds=>idsD d++idsDs ds
end
def appendY (H:List Ob) (sz:Nat) (y:D):Option (List D) :=
 match y with
 | .sc (.string s)=>if sz=1 then some (s.data.toList.map fun b=> .sc (.int .u8 b.toNat)) else none
 | d=>match slD H d with
  | some (sz',ys)=>if sz'=sz∨isNil ys then some ys else none
  | none=>none
def slcD (sz:Nat) (lo hi:Option D):D→Option D
 | .sl sz' ds=>if sz'=sz then (bnds ds.length lo hi).map fun p=> .sl sz ((ds.drop p.1).take (p.2-p.1)) else none
 | .sn=>(bnds 0 lo hi).map fun _=> .sn
 | .rf id sz' off len=>if sz'=sz then (bnds len lo hi).map fun p=> .rf id sz (off+p.1) (p.2-p.1) else none
 | _=>none
def storeD (H:List Ob) (n:Nat) (v:D):D→Option (D×Option (Nat×Ob))
 | .pt id sz e off=>match H[id]? with
  | some (.bx ds)=>if e=0∧v.cells.length=n then (putCells ds off v.cells).map fun ds'=>(.un,some (id, .bx ds')) else none
  | some (.ow true sz' ds)=>if sz=sz'∧v.cells.length=n∧isRO v then
    (ds[e]?).bind fun d=>(if off=0∧n=sz' then some v else if d.cells.length=sz' then (putCells d.cells off v.cells).map .agg else none).map fun d' =>
     (.un,some (id, .ow true sz' (ds.set e d'))) else none
  | _=>none
 | _=>none
def appendD (H:List Ob) (sz bytes:Nat) (ys:List D):D→Option (D×Option (Nat×Ob))
 | .sn=>if ys.length*bytes≤140737488355328 then some (.osl true sz ys,none) else none
 | .osl wr sz' ds=>if sz'=sz∧(ds.length+ys.length)*bytes≤140737488355328 then some (.osl wr sz (ds++ys),none) else none
 | .rf id sz' off len=>match H[id]? with
  | some (.ow wr sz'' ds)=>if off=0∧sz'=sz∧sz''=sz∧len≤ds.length∧(wr=true∨len=ds.length)∧(len+ys.length)*bytes≤140737488355328 then
    some (.osl wr sz (ds.take len++ys),some (id, .dead)) else none
  | _=>none
 | _=>none
def copyD (H:List Ob) (sz:Nat) (ys:List D):D→Option (D×Option (Nat×Ob))
 | .sn=>some (.sc (.int .i64 0),none)
 | .rf id sz' off len=>match H[id]? with
  | some (.ow true sz'' ds)=>if sz'=sz∧sz''=sz∧off+len≤ds.length then
    some (.sc (.int .i64 (min ys.length len:Nat)),some (id, .ow true sz (ds.take off++(ys.take (min ys.length len)++ds.drop (off+min ys.length len))))) else none
  | _=>none
 | _=>none
def clrD (H:List Ob) (z:D):D→Option (D×Option (Nat×Ob))
 | .sn=>some (.tup [],none)
 | .rf id sz off len=>match H[id]? with
  | some (.ow true sz'' ds)=>if sz=1∧sz''=1∧off+len≤ds.length then some (.tup [],some (id, .ow true 1 (ds.take off++(List.replicate len z++ds.drop (off+len))))) else none
  | _=>none
 | _=>none
def frz1 (cs:List D) (H:List Ob):Option (List D×Option (Nat×Ob)) :=
 if isROs cs then some (cs,none) else match idsDs cs with
  | id :: ids=>if ids.all (fun i=>decide (i=id)) then match H[id]? with
   | some (.ow _ sz ds)=>(rofs false cs H).map fun r=>(r.1,some (id, .ow false sz ds))
   | _=>none
   else none
  | _=>none
mutual
def roD:D→Option D
 | .osl _ sz ds=>some (.sl sz ds)
 | .obx _=>none
 | .omp ..=>none
 | .agg ds=>(roDs ds).map .agg
 | .tup ds=>(roDs ds).map .tup
 | .fn f ds=>(roDs ds).map (.fn f)
 | d=>some d
def roDs:List D→Option (List D)
 | []=>some []
 | d :: ds=>(roD d).bind fun x=>(roDs ds).map fun xs=>x :: xs
end
def evX (cl:Nat→List D→List Ob→Option D) (E:Env) (H:List Ob):SOp→Option (D×Option (Nat×Ob))
 | .mv x=>if noTree (ov E x) then some (ov E x,none) else none
 | .pick c a b=>match ov E c with | .sc (.bool x)=>if noTree (if x then ov E a else ov E b) then some (if x then ov E a else ov E b,none) else none | _=>none
 | .alloc z=>if isROs z then some (.obx z,none) else none
 | .box n x=>if (ov E x).cells.length=n∧noTrees (ov E x).cells∧(ov E x).cells.all isCellD then some (.obx (ov E x).cells,none) else none
 | .build z ps=>if noTrees (ps.map fun p=>ov E p.2.2) then (buildD z (ps.map fun p=>(p.1,p.2.1,ov E p.2.2))).map fun ds=>(.agg ds,none) else none
 | .bsl own sz len z ps=>(fillD sz (List.replicate len z).flatten (ps.map fun p=>(p.1,ov E p.2))).bind fun cs =>
   (frz1 cs H).bind fun q=>if z.length=sz∧cs.all isCellD∧q.1.all isCellD∧noTrees (ps.map fun p=>ov E p.2) then
    some (if own then .osl true sz (chunks (sz != 1) sz len q.1) else .sl sz (chunks (sz != 1) sz len q.1),q.2)
   else none
 | .load ag n x=>((cellsAt H (ov E x)).bind (part ag n)).map fun d=>(d,none)
 | .store n x v=>if noTree (ov E v) && (ov E v).cells.all isCellD then storeD H n (ov E v) (ov E x) else none
 | .nilc x=>match ov E x with | .pt id sz e off=>some (.pt id sz e off,none) | .ep ds=>some (.ep ds,none) | _=>none
 | .bin op x y=>(binD op (ov E x) (ov E y)).map fun d=>(d,none)
 | .binb op x y=>(binbD op (ov E x) (ov E y)).map fun d=>(d,none)
 | .eqa neg ks x y=>(eqaD neg ks (ov E x) (ov E y)).map fun d=>(d,none)
 | .eqn neg x=>match ov E x with
  | .nl=>some (.sc (.bool (!neg)),none)
  | .pt ..=>some (.sc (.bool neg),none)
  | _=>none
 | .una op x=>(unaD op (ov E x)).map fun d=>(d,none)
 | .cvi k x=>(cviD k (ov E x)).map fun d=>(d,none)
 | .cvs x=>match ov E x with | .sc (.string s)=>some (.sc (.string s),none) | _=>none
 | .s2b x=>match ov E x with
  | .sc (.string s)=>some (.osl true 1 (s.data.toList.map fun b=> .sc (.int .u8 b.toNat)),none)
  | _=>none
 | .b2s x=>(slD H (ov E x)).bind fun p=>(bytesOfD p.2).map fun l=>(.sc (.string ⟨⟨l⟩⟩),none)
 | .cvb x=>match ov E x with
  | .rf id sz off len=>match H[id]? with
   | some (.ow wr sz' ds)=>if 0<len then some (.rf id sz off len,some (id, .ow wr sz' ds)) else none
   | _=>none
  | _=>none
 | .mkf f caps=>if noTrees (ovs E caps) then some (.fn f (ovs E caps),none) else none
 | .mksl sz bytes z l=>(natOf (ov E l)).bind fun n =>
   if n*bytes≤140737488355328∧isROs z∧z.length=sz∧z.all isCellD then some (.osl true sz (List.replicate n (elemOf z)),none) else none
 | .slc sz x lo hi=>(slcD sz (lo.map (ov E)) (hi.map (ov E)) (ov E x)).map fun d=>(d,none)
 | .sls x lo hi=>match ov E x with
  | .sc (.string s)=>(bnds s.data.toList.length (lo.map (ov E)) (hi.map (ov E))).map fun p=>(.sc (.string ⟨⟨(s.data.toList.drop p.1).take (p.2-p.1)⟩⟩),none)
  | _=>none
 | .slz x=>if isStr (ov E x) then none else (lenD (ov E x)).map fun _=>(.sn,none)
 | .fad off x=>match ov E x with
  | .ep ds=>some (.ep (ds.drop off),none)
  | .pt id sz e o=>some (.pt id sz e (o+off),none)
  | _=>none
 | .fld ag off n x=>match ov E x with | .agg ds=>if noTrees ds then (part ag n (ds.drop off)).map fun d=>(d,none) else none | _=>none
 | .ixs sz x i=>(natOf (ov E i)).bind fun j=>match ov E x with
  | .sl sz' ds=>if sz'=sz then (ds[j]?).map fun d=>(.ep d.cells,none) else none
  | .rf id sz' off len=>if sz'=sz∧j<len then some (.pt id sz (off+j) 0,none) else none
  | _=>none
 | .ixa len sz x i=>(natOf (ov E i)).bind fun j=>if j<len then (match ov E x with
  | .ep ds=>some (.ep (ds.drop (j*sz)),none)
  | .pt id s e o=>some (.pt id s e (o+j*sz),none)
  | _=>none) else none
 | .ixt x i=>(natOf (ov E i)).bind fun j=>match ov E x with
  | .sc (.string s)=>(s.data.toList[j]?).map fun b=>(.sc (.int .u8 b.toNat),none)
  | _=>none
 | .ixg ag len n x i=>(natOf (ov E i)).bind fun j=>if j<len then (match ov E x with
  | .agg ds=>if noTrees ds then (part ag n (ds.drop (j*n))).map fun d=>(d,none) else none
  | _=>none) else none
 | .ext x i=>match ov E x with | .tup ds=>(ds[i]?).bind fun d=>if noTree d then some (d,none) else none | _=>none
 | .call true f xs=>(cl f (ovs E xs) H).map fun d=>(d,none)
 | .callv true f xs=>match ov E f with | .fn g caps=>(cl g (ovs E xs++caps) H).map fun d=>(d,none) | _=>none
 | .len x=>if isStr (ov E x) then none else (lenD (ov E x)).map fun (n:Nat)=>(.sc (.int .i64 (n:Int)),none)
 | .lens x=>if isStr (ov E x) then (lenD (ov E x)).map fun (n:Nat)=>(.sc (.int .i64 (n:Int)),none) else none
 | .append sz bytes x y=>(appendY H sz (ov E y)).bind fun ys=>appendD H sz bytes ys (ov E x)
 | .copy sz x y=>(appendY H sz (ov E y)).bind fun ys=>copyD H sz ys (ov E x)
 | .mx xs=>(mxD (ovs E xs)).map fun d=>(d,none)
 | .mn xs=>(mnD (ovs E xs)).map fun d=>(d,none)
 | .mkm=>some (.omp [] [],none)
 | .clr z x=>clrD H z (ov E x)
 | .appz sz bytes z x l=>match ov E x with
  | .sn=>(natOf (ov E l)).bind fun n=>if 0<n∧n*bytes≤140737488355328∧isROs z∧z.length=sz∧z.all isCellD then some (.osl true sz (List.replicate n (elemOf z)),none) else none
  | _=>none
 | .capn x=>match ov E x with | .sn=>some (.sc (.int .i64 0),none) | _=>none
 | .callr f xs=>(cl f (ovs E xs) H).bind fun d=>(roD d).map fun d'=>(d',none)
 | .mup ag ks m k v=>match ov E m with
  | .mp id=>match H[id]? with
   | some (.mpo kk vv)=>if isRO (ov E k) && isRO (ov E v) && noTree (ov E k) && noTree (ov E v) && isSomeTrue (eqK ag ks (ov E k) (ov E k)) then (findK ag ks (ov E k) kk).map fun r=>(.un,some (id,putK r kk vv (ov E k) (ov E v))) else none
   | _=>none
  | _=>none
 | .lkp ok ag ks z m k=>match ov E m with
  | .mp id=>match H[id]? with
   | some (.mpo kk vv)=>if noTree (ov E k) && isSomeTrue (eqK ag ks (ov E k) (ov E k)) then (findK ag ks (ov E k) kk).bind fun r=>(getK ok z vv r).map fun d=>(d,none) else none
   | _=>none
  | _=>none
 | _=>none
def isCall:SOp→Bool
 | .call false .. | .callv false ..=>true
 | _=>false
def evCall (cl:Nat→List D→List Ob→Option (D×List Ob)) (E:Env) (H:List Ob):SOp→Option (D×List Ob)
 | .call false f xs=>cl f (ovs E xs) H
 | .callv false f xs=>match ov E f with | .fn g caps=>cl g (ovs E xs++caps) H | _=>none
 | _=>none
def rdO:SOpd→List Nat
 | .t n=>[n]
 | .k _=>[]
def rdOs (xs:List SOpd):List Nat:=xs.flatMap rdO
def rdM:Option SOpd→List Nat
 | some x=>rdO x
 | none=>[]
def rdX:SOp→List Nat
 | .mv x | .box _ x | .load _ _ x | .nilc x | .eqn _ x | .una _ x | .cvi _ x | .cvs x | .s2b x | .b2s x | .cvb x | .fad _ x | .fld _ _ _ x | .ext x _ | .len x | .lens x | .slz x | .clr _ x | .capn x=>rdO x
 | .mksl _ _ _ x=>rdO x
 | .pick c a b=>rdO c++(rdO a++rdO b)
 | .alloc _ | .mkm | .bad=>[]
 | .mup _ _ m k v=>rdO m++(rdO k++rdO v)
 | .lkp _ _ _ _ m k=>rdO m++rdO k
 | .build _ ps=>rdOs (ps.map (·.2.2))
 | .bsl _ _ _ _ ps=>rdOs (ps.map (·.2))
 | .appz _ _ _ x y | .store _ x y | .bin _ x y | .binb _ x y | .eqa _ _ x y | .append _ _ x y | .copy _ x y | .ixs _ x y | .ixa _ _ x y | .ixt x y | .ixg _ _ _ x y=>rdO x++rdO y
 | .mkf _ xs | .call _ _ xs | .callr _ xs | .mx xs | .mn xs=>rdOs xs
 | .callv _ f xs=>rdO f++rdOs xs
 | .slc _ x lo hi | .sls x lo hi=>rdO x++(rdM lo++rdM hi)
def rdS (s:SOper):List Nat:=rdX s.op++(match s.guard with | some (t,_)=>[t] | none=>[])
def wrS (s:SOper):List Nat:=s.dst.toList++(match s.op with | .append _ _ (.t t) _=>[t] | _=>[])
inductive Ex where
 | nrm
 | exit (id:Nat)
 | ret
 deriving Inhabited
structure Cl where
 r:Nat→List D→List Ob→Option D
 w:Nat→List D→List Ob→Option (D×List Ob)
def putE (dst:Option Nat) (d:D) (E:Env):Env:=match dst with | none=>E | some t=>(t,d) :: E
def putH (u:Option (Nat×Ob)) (H:List Ob):List Ob:=match u with | none=>H | some (id,o)=>H.set id o
def wanted (E:Env):Option (Nat×Bool)→Option Bool
 | none=>some true
 | some (t,b)=>match lk E t with | .sc (.bool x)=>some (x == b) | .tup []=>some false | _=>none
def eats (E:Env):SOp→Option Nat
 | .append _ _ (.t t) _=>match lk E t with | .osl ..=>some t | _=>none
 | _=>none
def stepX (cl:Cl) (o:SOper) (E:Env) (H:List Ob):Option (D×Option Nat×Option (Nat×Ob)) :=
 match wanted E o.guard with
 | some true=>(evX cl.r E H o.op).map fun r=>(r.1,eats E o.op,r.2)
 | some false=>some (.tup [],none,none)
 | none=>none
def stepO (cl:Cl) (o:SOper) (E:Env) (H:List Ob):Option (Env×List Ob) :=
 if isCall o.op then match wanted E o.guard with
  | some true=>(evCall cl.w E H o.op).map fun r=>(putE o.dst r.1 E,r.2)
  | some false=>some (putE o.dst (.tup []) E,H)
  | none=>none
 else (stepX cl o E H).map fun r=>match o.dst with
  | none=>(putE r.2.1 .un E,putH r.2.2 H)
  | some t=>let u:=unf r.1 (putH r.2.2 H);((t,u.1) :: putE r.2.1 .un E,u.2)
def stepsO (cl:Cl):List SOper→Env→List Ob→Option (Env×List Ob)
 | [],E,H=>some (E,H)
 | o :: os,E,H=>(stepO cl o E H).bind fun r=>stepsO cl os r.1 r.2
def settle:List Nat→Env→List Ob→Env×List Ob
 | [],E,H=>(E,H)
 | t :: ts,E,H=>if isRO (lk E t) then settle ts E H else let u:=unf (lk E t) H;settle ts ((t,u.1) :: E) u.2
def accX (E:Env):SOp→List Nat
 | .load _ _ x=>idsD (ov E x)
 | .store _ x _=>idsD (ov E x)
 | .b2s x=>idsD (ov E x)
 | .cvb x=>idsD (ov E x)
 | .append _ _ x y=>idsD (ov E x)++idsD (ov E y)
 | .copy _ x y=>idsD (ov E x)++idsD (ov E y)
 | .call _ _ xs=>idsDs (ovs E xs)
 | .callr _ xs=>idsDs (ovs E xs)
 | .bsl _ sz len z ps=>match fillD sz (List.replicate len z).flatten (ps.map fun p=>(p.1,ov E p.2)) with | some cs=>idsDs cs | none=>[]
 | .callv _ f xs=>idsD (ov E f)++idsDs (ovs E xs)
 | .clr _ x=>idsD (ov E x)
 | .mup _ _ m _ _=>idsD (ov E m)
 | .lkp _ _ _ _ m _=>idsD (ov E m)
 | _=>[]
def apart (xs ys:List Nat):Bool:=xs.all fun x=>!(ys.contains x)
def eqSc:Value→Value→Bool
 | .bool a, .bool b=>a == b
 | .int k a, .int k' b=>decide (k=k') && decide (a=b)
 | .string a, .string b=>decide (a.data.toList=b.data.toList)
 | _,_=>false
mutual
def eqD:D→D→Bool
 | .sc a, .sc b=>eqSc a b
 | .agg a, .agg b=>eqDs a b
 | .tup a, .tup b=>eqDs a b
 | .sl n a, .sl m b=>decide (n=m) && eqDs a b
 | .osl w n a, .osl v m b=>decide (w=v) && (decide (n=m) && eqDs a b)
 | .obx a, .obx b=>eqDs a b
 | .ep a, .ep b=>eqDs a b
 | .nl, .nl=>true
 | .sn, .sn=>true
 | .rf a b c d, .rf a' b' c' d'=>decide (a=a') && (decide (b=b') && (decide (c=c') && decide (d=d')))
 | .pt a b c d, .pt a' b' c' d'=>decide (a=a') && (decide (b=b') && (decide (c=c') && decide (d=d')))
 | .fn f a, .fn g b=>decide (f=g) && eqDs a b
 | .mp a, .mp b=>decide (a=b)
 | .uk, .uk=>true
 | .un, .un=>true
 | _,_=>false
def eqDs:List D→List D→Bool
 | [],[]=>true
 | a :: as,b :: bs=>eqD a b && eqDs as bs
 | _,_=>false
end
def sameBx:Option Ob→Option Ob→Bool
 | some (.bx a),some (.bx b)=>eqDs a b
 | _,_=>false
def kept (H H':List Ob):List Nat:=(List.range H.length).filter fun i=>sameBx H[i]? H'[i]?
abbrev Lo:=List Nat×List Nat×Nat
abbrev Log:=List Lo
def noclB (x y:Lo):Bool :=
 if x.2.2=2 then decide (y.2.2=1) && y.1.all (fun i=>x.2.1.contains i)
 else if y.2.2=2 then decide (x.2.2=1) && x.1.all (fun i=>y.2.1.contains i)
 else apart x.2.1 y.1 && apart y.2.1 x.1
def clash (lg:Log) (un:List Nat) (l:Lo):Bool :=
 un.any fun i=>match lg[i]? with
  | some x=>!(noclB x l)
  | none=>true
def idOf (u:Option (Nat×Ob)):List Nat:=match u with | none=>[] | some (id,_)=>[id]
def accS (E:Env) (o:SOper):List Nat:=if isSomeTrue (wanted E o.guard) then accX E o.op else []
def inertX (r:D×Option Nat×Option (Nat×Ob)):Bool:=noTree r.1 && r.2.1.isNone && r.2.2.isNone
def loX (E:Env) (o:SOper) (r:D×Option Nat×Option (Nat×Ob)):Lo:=(accS E o,idOf r.2.2,if inertX r then 1 else 0)
def stepsD (cl:Cl):List (List Nat×Bool×SOper)→Log→List Nat→Env→List Ob→Option (Env×List Ob)
 | [],_,ps,E,H=>some (settle ps E H)
 | (un,bar,o) :: os,lg,ps,E,H =>
  if bar then (let s:=settle ps E H;(stepO cl o s.1 s.2).bind fun r=>stepsD cl os [] [] r.1 r.2)
  else if isCall o.op then
   (if (rdS o).all (fun t=>noTree (lk E t)) then (stepO cl o E H).bind fun r =>
    if clash lg un ([],kept H r.2,2) then none else stepsD cl os (lg++[([],kept H r.2,2)]) (ps++o.dst.toList) r.1 r.2
   else none)
  else (stepX cl o E H).bind fun r =>
   if clash lg un (loX E o r) then none
   else stepsD cl os (lg++[loX E o r]) (ps++o.dst.toList) (putE o.dst r.1 (putE r.2.1 .un E)) (putH r.2.2 H)
def canon (m:Mode):D→D
 | .sn=>if m.sz=0 then .sn else .osl (!m.weak) m.sz []
 | .osl wr sz ds=> .osl (wr && !m.weak) sz ds
 | d=>d
def foldM (m:Mode) (d:D) (H:List Ob):Option (D×List Ob) :=
 if m.own then (fld depth d H).map fun r=>(canon m r.1,r.2) else rof true d H
def foldL:List (Nat×Mode)→Env→List Ob→Option (List D×List Ob)
 | [],_,H=>some ([],H)
 | (t,m) :: r,E,H=>let p:=(foldM m (lk E t) H).getD (.un,H);(foldL r E p.2).map fun q=>(p.1 :: q.1,q.2)
def unfL:List (Nat×Mode)→List D→List Ob→Env×List Ob
 | (t,_) :: r,d :: ds,H=>let u:=unf d H;let q:=unfL r ds u.2;((t,u.1) :: q.1,q.2)
 | _,_,H=>([],H)
def iter (body:List D→Option (Ex×List D)):Nat→List D→Option (Ex×List D)
 | 0,_=>none
 | n+1,ts=>match body ts with
  | some (.nrm,ts')=>iter body n ts'
  | r=>r
def rounds:Nat:=9223372036854775808
def keepD (n:Nat) (d:D):D:=if noTree d && (idsD d).all (fun i=>decide (i<n)) then d else .un
def keepOb (n:Nat):Ob→Ob
 | .bx ds=>if noTrees ds && (idsDs ds).all (fun i=>decide (i<n)) then .bx ds else .dead
 | o=>o
def trimR (live:List Nat) (n:Nat) (E:Env) (H:List Ob):Env×List Ob:=(live.map fun t=>(t,keepD n (lk E t)),(H.take n).map (keepOb n))
def iterR (body:Env×List Ob→Option (Ex×Env×List Ob)):Nat→Env×List Ob→Option (Ex×Env×List Ob)
 | 0,_=>none
 | n+1,s=>match body s with
  | some (.nrm,s')=>iterR body n s'
  | r=>r
def evC (cl:Cl):SCode→Env→List Ob→Option (Ex×Env×List Ob)
 | .skip,E,H=>some (.nrm,E,H)
 | .reg ops,E,H=>(stepsO cl ops E H).map fun r=>(.nrm,r.1,r.2)
 | .dreg ops,E,H=>(stepsD cl ops [] [] E H).map fun r=>(.nrm,r.1,r.2)
 | .seq a b,E,H=>match evC cl a E H with
  | some (.nrm,E',H')=>evC cl b E' H'
  | r=>r
 | .cond c a b,E,H=>match ov E c with
  | .sc (.bool x)=>if x then evC cl a E H else evC cl b E H
  | _=>none
 | .block id c,E,H=>match evC cl c E H with
  | some (.exit id',E',H')=>if id'=id then some (.nrm,E',H') else some (.exit id',E',H')
  | r=>r
 | .loop live c,E,H=>(foldL live E H).bind fun t0 =>
   (iter (fun ts=>let s:=unfL live ts [];match evC cl c s.1 s.2 with
    | some (ex,E',H')=>(foldL live E' H').map fun t=>(ex,t.1)
    | none=>none) rounds t0.1).map fun r=>let s:=unfL live r.2 [];(r.1,s.1,s.2)
 | .loopR live c,E,H=>iterR (fun s=>(evC cl c s.1 s.2).map fun r=>(r.1,trimR live H.length r.2.1 r.2.2)) rounds (trimR live H.length E H)
 | .exit id,E,H=>some (.exit id,E,H)
 | .ret,E,H=>some (.ret,E,H)
def noLoop:SCode→Bool
 | .seq a b=>noLoop a && noLoop b
 | .cond _ a b=>noLoop a && noLoop b
 | .block _ c=>noLoop c
 | .loop ..=>false
 | .loopR ..=>false
 | _=>true
def resD (E:Env) (H:List Ob):SRes→Option D
 | .tmp t=>some (lk E t)
 | .cell t ag n=>(cellsAt H (lk E t)).bind (part ag n)
def resDs (E:Env) (H:List Ob):List (SRes×Mode)→Option (List D)
 | []=>some []
 | (r,_) :: rs=>(resD E H r).bind fun d=>(resDs E H rs).map fun ds=>d :: ds
def foldR:List (SRes×Mode)→List D→List Ob→Option (List D×List Ob)
 | (_,m) :: r,d :: ds,H=>(foldM m d H).bind fun p=>(foldR r ds p.2).map fun q=>(p.1 :: q.1,q.2)
 | [],[],H=>some ([],H)
 | _,_,_=>none
def one (ds:List D):D:=match ds with | [d]=>d | ds=> .tup ds
def envFrom:Nat→List D→Env
 | _,[]=>[]
 | n,d :: ds=>(n,d) :: envFrom (n+1) ds
def isBx:D→Bool
 | .obx _=>true
 | _=>false
def outs (fx:List Nat) (E:Env):Nat→List D→List Ob→Option (List D×List Ob)
 | i, .obx _ :: as,H=>if fx.contains i then (fld depth (lk E i) H).bind fun p=>(outs fx E (i+1) as p.2).map fun q=>(p.1 :: q.1,q.2) else none
 | i,_ :: as,H=>outs fx E (i+1) as H
 | _,[],H=>some ([],H)
def ended:Option (Ex×Env×List Ob)→Option (Env×List Ob)
 | some (.nrm,E,H)=>some (E,H)
 | some (.ret,E,H)=>some (E,H)
 | _=>none
def evFun (cl:Cl) (s:SFun) (args:List D):Option (D×List D) :=
 if args.length=s.nargs then
  let u:=unfs args []
  (ended (evC cl s.body (envFrom 0 u.1) u.2)).bind fun r =>
   (resDs r.1 r.2 s.res).bind fun ds=>(foldR s.res ds r.2).bind fun p=>(outs s.fx r.1 0 args p.2).map fun q=>(one p.1,q.1)
 else none
def evInl (cl:Cl) (s:SFun) (args:List D) (H:List Ob):Option (D×List Ob) :=
 if args.length=s.nargs∧noLoop s.body then
  (ended (evC cl s.body (envFrom 0 args) H)).bind fun r=>(resDs r.1 r.2 s.res).map fun ds=>(one ds,r.2)
 else none
inductive Sem1 where
 | model (fz:Bool) (m:List D→Option (D×List D))
 | modelO (m:List D→Option (D×List D))
 | inl (s:SFun)
def argF (fz:Bool) (d:D) (H:List Ob):Option (D×List Ob) :=
 match d with
 | .pt ..=>fld depth d H
 | _=>rof fz d H
mutual
def plain:D→Bool
 | .sl _ ds=>isNil ds
 | .ep ds=>isNil ds
 | .osl _ _ ds=>plains ds
 | .obx ds=>plains ds
 | .omp ks vs=>plains ks && plains vs
 | .agg ds | .tup ds | .fn _ ds=>plains ds
 | _=>true
def plains:List D→Bool
 | []=>true
 | d :: ds=>plain d && plains ds
end
def isAlive (H:List Ob) (i:Nat):Bool:=match H[i]? with | some .dead=>false | none=>false | _=>true
def idsRO:List D→List Nat
 | []=>[]
 | .pt .. :: ds=>idsRO ds
 | d :: ds=>idsD d++idsRO ds
def restore:List D→List D→List Ob→Option (List Ob)
 | .pt id _ _ _ :: as, .obx ds :: os,H=>let u:=unfs ds H;restore as os (u.2.set id (.bx u.1))
 | .pt .. :: _,_,_=>none
 | _ :: as,os,H=>restore as os H
 | [],[],H=>some H
 | [],_,_=>none
def callM (fz:Bool) (m:List D→Option (D×List D)) (args:List D) (H:List Ob):Option (D×List Ob) :=
 (thr (argF fz) args H).bind fun p=>(m p.1).bind fun r =>
  if (fz || (plain r.1 && plains r.2)) && (idsRO args).all (isAlive p.2) then (let u:=unf r.1 p.2;(restore args r.2 u.2).map fun H'=>(u.1,H')) else none
def callO (m:List D→Option (D×List D)) (args:List D) (H:List Ob):Option (D×List Ob) :=
 match args with
 | .rf id sz off len :: as=>(fld depth (.rf id sz off len) H).bind fun q=>(thr (argF true) as q.2).bind fun p=>(m (q.1 :: p.1)).bind fun r =>
  if (idsRO as).all (isAlive p.2) then (let u:=unf r.1 p.2;(restore args r.2 u.2).map fun H'=>(u.1,H')) else none
 | _=>none
def callQ (fz:Bool) (m:List D→Option (D×List D)) (args:List D) (H:List Ob):Option D :=
 (if fz then (if isROs args then some args else none) else (rofs false args H).map (·.1)).bind fun ts =>
  match m ts with
  | some (r,[])=>if fz || plain r then some r else none
  | _=>none
def bound:List Nat→Nat
 | []=>0
 | n :: ns=>Nat.max (n+1) (bound ns)
def deads (n:Nat):List Ob:=List.replicate n .dead
def evInlQ (cl:Cl) (s:SFun) (args:List D):Option D :=
 if noTrees args then (evInl cl s args (deads (bound (idsDs args)))).bind fun q=>if (idsD q.1).all (fun i=>(idsDs args).contains i) && noTree q.1 then some q.1 else none else none
def clOf (Γ:Nat→Option Sem1):Nat→Cl
 | 0=>{
  r:=fun f as H=>match Γ f with | some (.model fz m)=>callQ fz m as H | _=>none
  w:=fun f as H=>match Γ f with | some (.model fz m)=>callM fz m as H | some (.modelO m)=>callO m as H | _=>none}
 | n+1=>{
  r:=fun f as H=>match Γ f with
   | some (.model fz m)=>callQ fz m as H
   | some (.inl s)=>evInlQ (clOf Γ n) s as
   | _=>none
  w:=fun f as H=>match Γ f with
   | some (.model fz m)=>callM fz m as H
   | some (.modelO m)=>callO m as H
   | some (.inl s)=>evInl (clOf Γ n) s as H
   | none=>none}
namespace Vo
def mv (d x:Nat):SOper:=⟨some d, .mv (.t x),none⟩
def mk (d:Nat) (c:D):SOper:=⟨some d, .mv (.k c),none⟩
def ld (d n x:Nat):SOper:=⟨some d, .load false n (.t x),none⟩
def la (d n x:Nat):SOper:=⟨some d, .load true n (.t x),none⟩
def st (n x v:Nat):SOper:=⟨none, .store n (.t x) (.t v),none⟩
def sk (n x:Nat) (c:D):SOper:=⟨none, .store n (.t x) (.k c),none⟩
def fa (d off x:Nat):SOper:=⟨some d, .fad off (.t x),none⟩
def fg (d off n x:Nat):SOper:=⟨some d, .fld false off n (.t x),none⟩
def ga (d off n x:Nat):SOper:=⟨some d, .fld true off n (.t x),none⟩
def ix (d n x i:Nat):SOper:=⟨some d, .ixs n (.t x) (.t i),none⟩
def bn (d:Nat) (op:BinOp) (x y:Nat):SOper:=⟨some d, .bin op (.t x) (.t y),none⟩
def bk (d:Nat) (op:BinOp) (x:Nat) (c:D):SOper:=⟨some d, .bin op (.t x) (.k c),none⟩
def cl (d f:Nat) (xs:List SOpd):SOper:=⟨some d, .call false f xs,none⟩
def ex (d x i:Nat):SOper:=⟨some d, .ext (.t x) i,none⟩
def ln (d x:Nat):SOper:=⟨some d, .len (.t x),none⟩
def bx (d n x:Nat):SOper:=⟨some d, .box n (.t x),none⟩
def al (d:Nat) (z:List D):SOper:=⟨some d, .alloc z,none⟩
def o (d:Nat) (op:SOp):SOper:=⟨some d,op,none⟩
def p (op:SOp):SOper:=⟨none,op,none⟩
def g (d:Nat) (op:SOp) (t:Nat) (b:Bool):SOper:=⟨some d,op,some (t,b)⟩
def gp (op:SOp) (t:Nat) (b:Bool):SOper:=⟨none,op,some (t,b)⟩
def rg (ops:List SOper) (c:SCode):SCode:= .seq (.reg ops) c
def i (n:Int):D:= .sc (.int .i64 n)
def u (n:Int):D:= .sc (.int .u8 n)
def r (n:Int):D:= .sc (.int .i32 n)
def q (n:Int):D:= .sc (.int .u64 n)
def c (n:Int):SOpd:= .k (.sc (.int .i64 n))
def f:D:= .sc (.bool false)
def w:D:= .sc (.bool true)
def m:Mode:=⟨false,0,false⟩
end Vo
end Lg
namespace Lg
open Go
set_option linter.unusedSectionVars false
set_option linter.unusedSimpArgs false
set_option linter.unusedVariables false
structure Ann where
 live:List (Nat×List (Nat×Mode)):=[]
 res:List Mode:=[]
 fx:List Nat:=[]
 raw:List Nat:=[]
 deriving Inhabited
def notAgg:Value→Bool
 | .agg _=>false
 | _=>true
def cell1:Value→Bool
 | .agg _ | .tuple _=>false
 | _=>true
def dLeaf:Value→D
 | .bool b=> .sc (.bool b)
 | .int k n=> .sc (.int k n)
 | .string s=> .sc (.string s)
 | .pointer none=> .nl
 | .slice none 0 0=> .sn
 | .agg _ | .tuple _=> .un
 | _=> .uk
def dVal:Value→D
 | .agg cs=> .agg (cs.toList.map dLeaf)
 | v=>dLeaf v
def sizeT (P:Program) (t:TypeId):Option Nat:=(P.info? t).map (·.size)
def bytesT (P:Program) (t:TypeId):Option Nat:=(P.info? t).map (·.bytes)
def aggT (P:Program) (t:TypeId):Option Bool :=
 (P.underlying t).map fun | .struct _ | .array _ _=>true | _=>false
def zeroT (P:Program) (t:TypeId):Option (List D) :=
 ((P.info? t).bind (·.zero)).bind fun v=>if v.cells.toList.all cell1 then some (v.cells.toList.map dLeaf) else none
def elemT (P:Program) (t:TypeId):Option TypeId :=
 match P.underlying t with | some (.slice e)=>some e | _=>none
section
variable (num:FuncId→Option Nat)
def opd:Operand→SOpd
 | .tmp t=> .t t
 | .const v=> .k (dVal v)
 | .global _=> .k .un
 | .func f=>match num f with | some g=> .k (.fn g []) | none=> .k .un
def opds (xs:Array Operand):List SOpd:=xs.toList.map (opd num)
end
def leavesFs (lv:TypeId→Option (List Nat)):Nat→List Field→Option (List Nat)
 | _,[]=>some []
 | off,f :: fs=>if f.name≠ "_"∧f.offset=off then (lv f.type).bind fun ks=>(leavesFs lv (off+ks.length) fs).map fun l=>ks++l else none
def sized (P:Program) (t:TypeId) (ks:Option (List Nat)):Option (List Nat) :=
 ks.bind fun l=>if (P.info? t).map (·.size)=some l.length then some l else none
def leavesT (P:Program):Nat→TypeId→Option (List Nat)
 | 0,_=>none
 | n+1,t=>sized P t (match P.underlying t with
  | some .bool=>some [0]
  | some (.int _)=>some [1]
  | some .string=>some [2]
  | some (.struct fs)=>if P.stoodInHeld t=false then leavesFs (leavesT P n) 0 fs.toList else none
  | some (.array len e)=>(leavesT P n e).map fun ks=>(List.replicate len ks).flatten
  | _=>none)
def placesT (P:Program) (fs:Array Field):Option (List (Nat×Nat)):=fs.toList.mapM (fun f=>(P.info? f.type).map fun i=>(f.offset,i.size))
def partsT (num:FuncId→Option Nat) (pl:List (Nat×Nat)):List (Nat×Operand)→Option (List (Nat×Nat×SOpd))
 | []=>some []
 | p :: ps=>(pl[p.1]?).bind fun q=>(partsT num pl ps).map fun l=>(q.1,q.2,opd num p.2) :: l
def seqT:TypeDesc→Bool
 | .slice _ | .string=>true
 | _=>false
def isU8 (P:Program) (e:TypeId):Bool:=match P.underlying e with | some (.int .u8)=>true | _=>false
def zero1T (P:Program) (t:TypeId):Option D:=((P.info? t).bind (·.zero)).bind fun v=>if cell1 v then some (dLeaf v) else none
def compBuiltin (P:Program) (num:FuncId→Option Nat) (b:Builtin) (args:List Operand) (ts:List TypeId):Option SOp :=
 match b,args,ts with
 | .len,[x],[t]=>match P.underlying t with
  | some .string=>some (.lens (opd num x))
  | some (.slice _)=>some (.len (opd num x))
  | some (.array n _)=>some (.mv (.k (.sc (.int .i64 n))))
  | _=>none
 | .append,[x,y],[t,u]=>(elemT P t).bind fun e=>(sizeT P e).bind fun n=>(bytesT P e).bind fun by_=>(P.underlying u).bind fun du=>match du with
   | .int _=>(zeroT P e).bind fun z=>if 0<n∧0<by_ then some (.appz n by_ z (opd num x) (opd num y)) else none
   | du=>if seqT du∧0<n∧0<by_∧(zeroT P e).map List.length=some n then some (.append n by_ (opd num x) (opd num y)) else none
 | .copy,[x,y],[t,_]=>(elemT P t).bind fun e=>(sizeT P e).bind fun n=>if 0<n then some (.copy n (opd num x) (opd num y)) else none
 | .cap,[x],[t]=>(elemT P t).map fun _=> .capn (opd num x)
 | .clear,[x],[t]=>(elemT P t).bind fun e=>(zero1T P e).map fun z=> .clr z (opd num x)
 | .max,[x,y],_=>some (.mx [opd num x,opd num y])
 | .min,[x,y],_=>some (.mn [opd num x,opd num y])
 | _,_,_=>none
def compCall (P:Program) (num:FuncId→Option Nat) (q own:Bool) (c:Call):Option SOp :=
 match c.callee with
 | .value (.func f)=>(num f).map fun g=>if q && !own then .callr g (opds num c.args) else .call q g (opds num c.args)
 | .value (.tmp t)=>some (.callv q (.t t) (opds num c.args))
 | .builtin b=>compBuiltin P num b c.args.toList c.argTypes.toList
 | _=>none
def isZero:Option Operand→Bool
 | some (.const (.int _ 0))=>true
 | _=>false
def mapT (P:Program) (t:TypeId):Option (TypeId×TypeId):=match P.underlying t with | some (.map k e)=>some (k,e) | _=>none
def compOp0 (P:Program) (num:FuncId→Option Nat) (q own:Bool):Op→Option SOp
 | .move x=>some (.mv (opd num x))
 | .assign x=>some (.mv (opd num x))
 | .pick c a b=>some (.pick (opd num c) (opd num a) (opd num b))
 | .alloc t=>(zeroT P t).map .alloc
 | .box t x=>(sizeT P t).map fun n=> .box n (opd num x)
 | .build t ps=>(zeroT P t).bind fun z=>match P.underlying t with
  | some (.struct fs)=>(placesT P fs).bind fun pl=>(partsT num pl ps.toList).map (.build z)
  | some (.array _ e)=>(sizeT P e).map fun n=> .build z (ps.toList.map fun p=>(p.1*n,n,opd num p.2))
  | _=>none
 | .buildSlice t len ps=>(elemT P t).bind fun e=>(sizeT P e).bind fun n=>(zeroT P e).bind fun z =>
   if len*n≤2 ^ 24∧0<n then some (.bsl own n len z (ps.toList.map fun p=>(p.1,opd num p.2))) else none
 | .load t x=>(aggT P t).bind fun ag=>(sizeT P t).map fun n=> .load ag n (opd num x)
 | .store t x v=>(sizeT P t).map fun n=> .store n (opd num x) (opd num v)
 | .nilCheck x=>some (.nilc (opd num x))
 | .binOp op t x y _=>match op,P.underlying t with
  | .eql,some (.struct _) | .eql,some (.array _ _)=>if P.eqGuardType P.depth t=false then (leavesT P 9 t).map fun ks=> .eqa false ks (opd num x) (opd num y) else none
  | .neq,some (.struct _) | .neq,some (.array _ _)=>if P.eqGuardType P.depth t=false then (leavesT P 9 t).map fun ks=> .eqa true ks (opd num x) (opd num y) else none
  | .eql,some (.pointer _)=>(match y with | .const (.pointer none)=>some (.eqn false (opd num x)) | _=>none)
  | .neq,some (.pointer _)=>(match y with | .const (.pointer none)=>some (.eqn true (opd num x)) | _=>none)
  | op,some (.int _) | op,some .string=>some (.bin op (opd num x) (opd num y))
  | op,some .bool=>some (.binb op (opd num x) (opd num y))
  | _,_=>none
 | .unOp op _ x=>some (.una op (opd num x))
 | .convert s d x=>match P.underlying s,P.underlying d with
  | some (.slice e),some (.slice _)=>if s=d∧isU8 P e then some (.cvb (opd num x)) else none
  | some (.int _),some (.int k)=>some (.cvi k (opd num x))
  | some .string,some .string=>some (.cvs (opd num x))
  | some .string,some (.slice e)=>if isU8 P e then some (.s2b (opd num x)) else none
  | some (.slice e),some .string=>if isU8 P e then some (.b2s (opd num x)) else none
  | _,_=>none
 | .makeFunc fn first caps=>match fn with | .func f=>if first.size=0 then (num f).map fun g=> .mkf g (opds num caps) else none | _=>none
 | .makeSlice t l c=>match l,c with
  | .tmp a, .tmp b=>if a=b then (elemT P t).bind fun e=>(sizeT P e).bind fun n=>(bytesT P e).bind fun by_=>(zeroT P e).bind fun z=>if 0<n∧0<by_ then some (.mksl n by_ z (.t a)) else none else none
  | _,_=>none
 | .slice t x lo hi mx=>if mx.isSome then (if (lo.isNone || isZero lo) && isZero hi && isZero mx then (match P.underlying t with | some (.slice e)=>(sizeT P e).map fun _=> .slz (opd num x) | _=>none) else none) else match P.underlying t with
  | some (.slice e)=>(sizeT P e).bind fun n=>if 0<n then some (.slc n (opd num x) (lo.map (opd num)) (hi.map (opd num))) else none
  | some .string=>some (.sls (opd num x) (lo.map (opd num)) (hi.map (opd num)))
  | _=>none
 | .fieldAddr t x i=>match P.underlying t with
  | some (.struct fs)=>(fs[i]?).bind fun f=>(sizeT P f.type).bind fun n=>if n=0 then none else some (.fad f.offset (opd num x))
  | _=>none
 | .field t x i=>match P.underlying t with
  | some (.struct fs)=>(fs[i]?).bind fun f=>(sizeT P f.type).bind fun n=>(aggT P f.type).map fun ag=> .fld ag f.offset n (opd num x)
  | _=>none
 | .indexAddr t x i=>match P.underlying t with
  | some (.slice e)=>(sizeT P e).bind fun n=>if 0<n then some (.ixs n (opd num x) (opd num i)) else none
  | some (.array len e)=>(sizeT P e).map fun n=> .ixa len n (opd num x) (opd num i)
  | _=>none
 | .index t x i=>match P.underlying t with
  | some .string=>some (.ixt (opd num x) (opd num i))
  | some (.array len e)=>(sizeT P e).bind fun n=>(aggT P e).map fun ag=> .ixg ag len n (opd num x) (opd num i)
  | _=>none
 | .extract x i=>some (.ext (opd num x) i)
 | .call c=>compCall P num q own c
 | .makeMap _ r=>if r.isNone then some .mkm else none
 | .mapUpdate t m k v=>(mapT P t).bind fun ke=>(leavesT P 9 ke.1).bind fun ks=>(aggT P ke.1).map fun ag=> .mup ag ks (opd num m) (opd num k) (opd num v)
 | .insert t m k v=>(mapT P t).bind fun ke=>(leavesT P 9 ke.1).bind fun ks=>(aggT P ke.1).map fun ag=> .mup ag ks (opd num m) (opd num k) (opd num v)
 | .lookup t m k ok=>(mapT P t).bind fun ke=>(leavesT P 9 ke.1).bind fun ks=>(aggT P ke.1).bind fun ag=>(zero1T P ke.2).map fun z=> .lkp ok ag ks z (opd num m) (opd num k)
 | _=>none
def compOp (P:Program) (num:FuncId→Option Nat) (q own:Bool) (op:Op):Option SOp:=some ((compOp0 P num q own op).getD .bad)
theorem compOp_some {P:Program} {num:FuncId→Option Nat} {q own:Bool} {op:Op} {s:SOp} (h:compOp P num q own op=some s):compOp0 P num q own op=some s∨s = .bad:=by
 unfold compOp at h
 injection h with h
 cases e:compOp0 P num q own op with
 | none=>rw [e] at h;exact .inr h.symm
 | some x=>rw [e] at h;exact .inl (by rw [←h];rfl)
def opTmps (x:Operand):List Nat:=match x with | .tmp t=>[t] | _=>[]
def appTo (op:Op):List Nat:=match op with
 | .call c=>(match c.callee,c.args.toList with | .builtin .append,x :: _=>opTmps x | _,_=>[])
 | _=>[]
def copyTo (op:Op):List Nat:=match op with
 | .call c=>(match c.callee,c.args.toList with | .builtin .copy,x :: _=>opTmps x | _,_=>[])
 | _=>[]
def isCalls (op:Op):Bool:=match op with
 | .call c=>true
 | _=>false
def isBuild (op:Op):Bool:=match op with
 | .build ..=>true
 | .buildSlice ..=>true
 | _=>false
def isIndex (op:Op):Bool:=match op with
 | .indexAddr ..=>true
 | _=>false
def ownTo (num:FuncId→Option Nat) (op:Op):List Nat:=match op with
 | .call c=>(match c.callee,c.args.toList with | .value (.func f),x :: _=>(match num f with | some g=>if 100000≤g then opTmps x else [] | none=>[]) | _,_=>[])
 | _=>[]
def usedOwn (num:FuncId→Option Nat) (ops:Array Oper) (d:Option Nat):Bool :=
 match d with
 | none=>false
 | some t=>ops.toList.any fun o=>if isCalls o.op then (appTo o.op++(copyTo o.op++ownTo num o.op)).contains t else if isBuild o.op || isIndex o.op then false else (o.op.operands.toList.flatMap opTmps).contains t
def barrier (ops:Array Oper) (b:Array Nat) (i:Nat):Bool :=
 (List.range ops.size).all fun j=>if j<i then (b.getD i 0).testBit j else if i<j then (b.getD j 0).testBit i else true
def okOpd:Operand→Bool
 | .const (.agg cs)=>cs.toList.all fun c=>match c with | .agg _=>false | _=>true
 | _=>true
def okOper (nt:Nat→Bool) (o:Oper):Bool:=o.op.operands.toList.all okOpd && (match o.dst with | some d=>nt d | none=>true)
def compOper (P:Program) (num:FuncId→Option Nat) (nt:Nat→Bool) (ops:Array Oper) (q:Bool) (o:Oper):Option SOper :=
 if !okOper nt o then none else (compOp P num q (usedOwn num ops o.dst) o.op).bind fun op=>match o.guard with
  | none=>some {dst:=o.dst,op:=op,guard:=none}
  | some (j,w)=>match ops[j]?.bind (·.dst) with
   | some t=>some {dst:=o.dst,op:=op,guard:=some (t,w)}
   | none=>none
def meets (xs ys:List Nat):Bool:=xs.any fun x=>ys.contains x
def pairOk (cs:List (Bool×SOper)) (b:Array Nat) (i j:Nat):Bool :=
 (b.getD j 0).testBit i || (match cs[i]?,cs[j]? with
 | some x,some y=>!(meets (wrS x.2) (rdS y.2++wrS y.2) || meets (wrS y.2) (rdS x.2))
 | _,_=>false)
def drawOk (cs:List (Bool×SOper)) (b:Array Nat):Bool :=
 (List.range cs.length).all fun j=>(List.range j).all fun i=>pairOk cs b i j
def edgesOk (ops:Array Oper):Bool:=(List.range ops.size).all fun j=>match ops[j]? with
 | some o=>o.after.toList.all fun e=>!Region.binds .any e || decide (e.on<j)
 | none=>true
def withUn (b:Array Nat):Nat→Nat→List (Bool×SOper)→List (List Nat×Bool×SOper)
 | _,_,[]=>[]
 | s,j,(bar,o) :: r=>((List.range (j-s)).filter fun k=>!(b.getD j 0).testBit (s+k),bar,o) :: withUn b (if bar then j+1 else s) (j+1) r
def isPtrT (P:Program) (t:TypeId):Bool:=match P.underlying t with
 | some (.pointer _)=>true
 | some (.map _ _)=>true
 | _=>false
def turns (P:Program) (op:Op):Bool:=match op with
 | .call c=>(match c.callee with
  | .value (.func f)=>(match P.funcs[f]? with | some fn=>fn.params.any (isPtrT P) || (fn.resultTypes.any (isPtrT P) || ["linguist/linguistref7.Do","linguist/source.All"].contains fn.name) | none=>false)
  | _=>false)
 | _=>false
def compDraw (P:Program) (num:FuncId→Option Nat) (nt:Nat→Bool) (ops:Array Oper) (b:Array Nat):Nat→List Oper→Option (List (Bool×SOper))
 | _,[]=>some []
 | i,o :: r =>
  (compOper P num nt ops (!(barrier ops b i) && !(turns P o.op)) o).bind fun s=>(compDraw P num nt ops b (i+1) r).map fun l=>(barrier ops b i,s) :: l
def compReg (P:Program) (num:FuncId→Option Nat) (nt:Nat→Bool) (ops:Array Oper) (draw:Bool):Option SCode :=
 if draw then
  let b:=Region.before ops
  if edgesOk ops then (compDraw P num nt ops b 0 ops.toList).bind fun l=>if drawOk l b then some (.dreg (withUn b 0 0 l)) else none
  else none
 else (ops.toList.mapM fun o=>compOper P num nt ops false o).map .reg
def firstReg:Code→Nat
 | .region id _ _=>id
 | .seq a b=>match a with | .skip=>firstReg b | _=>firstReg a
 | .cond _ a _=>firstReg a
 | .block _ c=>firstReg c
 | .loop c=>firstReg c
 | .scope c=>firstReg c
 | _=>0
def lookN {α:Type}:List (Nat×α)→Nat→Option α
 | [],_=>none
 | (k,a) :: r,n=>if k=n then some a else lookN r n
def compC (P:Program) (num:FuncId→Option Nat) (nt:Nat→Bool) (ann:Ann):Code→Option SCode
 | .skip=>some .skip
 | .region _ ops draw=>compReg P num nt ops draw
 | .seq a b=>(compC P num nt ann a).bind fun a'=>(compC P num nt ann b).map fun b'=> .seq a' b'
 | .cond c a b=>(compC P num nt ann a).bind fun a'=>(compC P num nt ann b).map fun b'=> .cond (opd num c) a' b'
 | .block id c=>(compC P num nt ann c).map fun c'=> .block id c'
 | .loop c=>(lookN ann.live (firstReg c)).bind fun l=>(compC P num nt ann c).map fun c'=>if ann.raw.contains (firstReg c) then .loopR (l.map (·.1)) c' else .loop l c'
 | .exit id=>some (.exit id)
 | .ret=>some .ret
 | _=>none
def compRes1 (P:Program):ResultVar→Option SRes
 | .tmp t=>some (.tmp t)
 | .cell a t=>(aggT P t).bind fun ag=>(sizeT P t).map fun n=> .cell a ag n
def compRes (P:Program):List ResultVar→List Mode→Option (List (SRes×Mode))
 | [],_=>some []
 | r :: rs,ms=>(compRes1 P r).bind fun x=>(compRes P rs ms.tail).map fun l=>(x,ms.headD {own:=false}) :: l
def compF (P:Program) (num:FuncId→Option Nat) (ann:Ann) (f:FuncId):Option SFun :=
 (P.funcs[f]?).bind fun fn=>fn.body.bind fun c=>if fn.params.size+fn.nfree≤fn.ntmps then
   (compC P num (fun d=>decide (d<fn.ntmps) && !(ann.fx.contains d)) ann c).bind fun body=>(compRes P fn.results.toList ann.res).map fun res =>
    {nargs:=fn.params.size+fn.nfree,ntmps:=fn.ntmps,fx:=ann.fx,res:=res,body:=body}
  else none
end Lg
namespace Lg
open Go
set_option linter.unusedSectionVars false
set_option linter.unusedSimpArgs false
set_option linter.unusedVariables false
def isSc:Value→Bool
 | .bool _ | .int _ _ | .string _=>true
 | _=>false
def flat (ds:List D):List D:=ds.flatMap D.cells
def okfr (n:Nat) (fr:Nat×Nat):Prop:=fr.1=fr.2∨n≤fr.1
theorem okfr.at {n:Nat} {fr:Nat×Nat} (h:okfr n fr):∀ off,off<n→¬(fr.1≤off∧off<fr.2):=by
 intro off ho;unfold okfr at h;omega
abbrev Av:=Nat→Nat→Prop
abbrev Io:=Nat→Option (Option Nat)
section
variable (fid:Nat→FuncId) (w:World) (A:Av) (ι:Io)
mutual
inductive LV:Bool→Value→D→List Nat→Prop
 | sc {r} (v:Value) (h:isSc v=true):LV r v (.sc v) []
 | un {r} (v:Value):LV r v .un []
 | uk {r} (v:Value) (h:v.oneCell'=true):LV r v .uk []
 | nl {r}:LV r (.pointer none) .nl []
 | sn {r} (a:Option Addr):LV r (.slice a 0 0) .sn []
 | fn {r} (f:Nat) (vs:List Value) (ds:List D) (O:List Nat) (h:LVs r vs ds O):LV r (.func (.func (fid f)) #[] ⟨vs⟩) (.fn f ds) O
 | agg {r} (vs:List Value) (ds:List D) (O:List Nat) (h:LVs r vs ds O):LV r (.agg ⟨vs⟩) (.agg ds) O
 | tup {r} (vs:List Value) (ds:List D) (O:List Nat) (h:LVs r vs ds O):LV r (.tuple ⟨vs⟩) (.tup ds) O
 | sl {r} (a:Option Addr) (n cap sz:Nat) (ds:List D) (vs:List Value) (hn:ds.length=n) (hc:n≤cap) (hu:∀ d,d∈ds→d.cells.length=sz)
   (h:LVs false vs (flat ds) []) (h1:∀ v,v∈vs→v.oneCell'=true) (hr:∀ (k:Nat) (v:Value),vs[k]? = some v→∃ ad,a=some ad∧¬A ad.block (ad.off+k)∧w.cell? (ad.add k)=some v):LV r (.slice a n cap) (.sl sz ds) []
 | ep {r} (ad:Addr) (ds:List D) (vs:List Value) (h:LVs false vs ds []) (h1:∀ v,v∈vs→v.oneCell'=true)
   (hr:∀ (k:Nat) (v:Value),vs[k]? = some v→¬A ad.block (ad.off+k)∧w.cell? (ad.add k)=some v):LV r (.pointer (some ad)) (.ep ds) []
 | osln {r} (a:Option Addr) (wr:Bool) (sz:Nat):LV r (.slice a 0 0) (.osl wr sz []) []
 | osl {r} (b cap sz:Nat) (wr:Bool) (ds:List D) (vs:List Value) (cs:Array Value) (T:TypeId) (fr:Nat×Nat) (hb:w.heap[b]? = some (.cells cs T fr)) (hf:okfr cs.size fr)
   (hu:∀ d,d∈ds→d.cells.length=sz) (h:LVs false vs (flat ds) []) (h1:∀ v,v∈vs→v.oneCell'=true) (hr:∀ (k:Nat) (v:Value),vs[k]? = some v→cs[k]? = some v) (hc:ds.length≤cap) (hs:cap*sz≤cs.size)
   (ha:wr=true→∀ off,A b off) (hA:∀ off,vs.length≤off→A b off):LV r (.slice (some ⟨b,0,none⟩) ds.length cap) (.osl wr sz ds) [b]
 | obx {r} (b:Nat) (vs:List Value) (ds:List D) (O:List Nat) (T:TypeId) (fr:Nat×Nat) (hb:w.heap[b]? = some (.cells ⟨vs⟩ T fr)) (hf:okfr vs.length fr) (h:LVs r vs ds O) (h1:∀ v,v∈vs→v.oneCell'=true)
   (hA:∀ off,A b off):LV r (.pointer (some ⟨b,0,none⟩)) (.obx ds) (b :: O)
 | omp {r} (b:Nat) (es:Array MapEntry) (c:Nat) (ks xs:List D) (hb:w.heap[b]? = some (.map es c)) (hk:LVs false (es.toList.map (·.key)) ks []) (hx:LVs false (es.toList.map (·.val)) xs [])
   (hA:∀ off,A b off):LV r (.map (some b)) (.omp ks xs) [b]
 | rf (a:Option Addr) (id sz off len cap:Nat) (q:Option Nat) (hi:ι id=some q) (h0:q=none→len=0∧cap=0∧off=0)
   (h1:∀ b,q=some b→(a=some ⟨b,off*sz,none⟩∨cap=0)∧len≤cap∧∃ (cs:Array Value) (T:TypeId) (fr:Nat×Nat),w.heap[b]? = some (Obj.cells cs T fr)∧(off+cap)*sz≤cs.size):LV true (.slice a len cap) (.rf id sz off len) []
 | pt (id sz e off b:Nat) (hi:ι id=some (some b)):LV true (.pointer (some ⟨b,e*sz+off,none⟩)) (.pt id sz e off) []
 | mp (id b:Nat) (hi:ι id=some (some b)):LV true (.map (some b)) (.mp id) []
inductive LVs:Bool→List Value→List D→List Nat→Prop
 | nil {r}:LVs r [] [] []
 | cons {r} (v:Value) (d:D) (O:List Nat) (vs:List Value) (ds:List D) (Os:List Nat) (h:LV r v d O) (hs:LVs r vs ds Os):LVs r (v :: vs) (d :: ds) (O++Os)
end
end
structure Keep (w w':World) (A A':Av) (C:Nat→Prop):Prop where
 os:w'.os=w.os
 tape:w'.tape=w.tape
 output:w'.output=w.output
 size:w.heap.size≤w'.heap.size
 blk:∀ b,¬C b→b<w.heap.size→w'.heap[b]? = w.heap[b]?
 cel:∀ b off v,¬A b off→w.cell? ⟨b,off,none⟩=some v→w'.cell? ⟨b,off,none⟩=some v
 siz:∀ (b:Nat) (cs:Array Value) (T:TypeId) (fr:Nat×Nat),w.heap[b]? = some (Obj.cells cs T fr)→∃ (cs':Array Value) (fr':Nat×Nat),w'.heap[b]? = some (Obj.cells cs' T fr')∧cs'.size=cs.size
 a1:∀ b off,A' b off→A b off∨(w.heap.size≤b∧b<w'.heap.size)
 a2:∀ b off,¬C b→b<w.heap.size→A b off→A' b off
theorem lt_of_heap {w:World} {b:Nat} {o:Obj} (h:w.heap[b]? = some o):b<w.heap.size:=(Array.getElem?_eq_some_iff.1 h).1
theorem Keep.refl (w:World) (A:Av) (C:Nat→Prop):Keep w w A A C :=
 ⟨rfl,rfl,rfl,Nat.le_refl _,fun _ _ _=>rfl,fun _ _ _ _ h=>h,fun b cs T fr h=>⟨cs,fr,h,rfl⟩,fun _ _ h=> .inl h,fun _ _ _ _ h=>h⟩
theorem Keep.mono {w w':World} {A A':Av} {C C':Nat→Prop} (h:Keep w w' A A' C) (hC:∀ b,C b→C' b):Keep w w' A A' C' :=
 ⟨h.os,h.tape,h.output,h.size,fun b hb=>h.blk b (fun c=>hb (hC b c)),h.cel,h.siz,h.a1,fun b off hb=>h.a2 b off (fun c=>hb (hC b c))⟩
theorem Keep.trans {w w1 w2:World} {A A1 A2:Av} {C C1 C2:Nat→Prop} (h:Keep w w1 A A1 C1) (k:Keep w1 w2 A1 A2 C2)
  (h1:∀ b,C1 b→C b∨w.heap.size≤b) (h2:∀ b,C2 b→C b∨w.heap.size≤b):Keep w w2 A A2 C:=by
 refine ⟨k.os.trans h.os,k.tape.trans h.tape,k.output.trans h.output,Nat.le_trans h.size k.size,?_,?_,?_,?_,?_⟩
 ·intro b hb hlt
  rw [k.blk b (fun c=>by rcases h2 b c with c | c;exact hb c;omega) (Nat.lt_of_lt_of_le hlt h.size),h.blk b (fun c=>by rcases h1 b c with c | c;exact hb c;omega) hlt]
 ·intro b off v hA hc
  have h':=h.cel b off v hA hc
  refine k.cel b off v (fun hA1=>?_) h'
  rcases h.a1 b off hA1 with a | a
  ·exact hA a
  ·have:b<w.heap.size:=World.block_lt_of_cell? w ⟨b,off,none⟩ hc
   omega
 ·intro b cs T fr hb
  obtain ⟨cs1,fr1,hb1,e1⟩:=h.siz b cs T fr hb
  obtain ⟨cs2,fr2,hb2,e2⟩:=k.siz b cs1 T fr1 hb1
  exact ⟨cs2,fr2,hb2,e2.trans e1⟩
 ·intro b off hA
  rcases k.a1 b off hA with a | a
  ·rcases h.a1 b off a with a | a
   ·exact .inl a
   ·exact .inr ⟨a.1,Nat.lt_of_lt_of_le a.2 k.size⟩
  ·exact .inr ⟨Nat.le_trans h.size a.1,a.2⟩
 ·intro b off hb hlt hA
  exact k.a2 b off (fun c=>by rcases h2 b c with c | c;exact hb c;omega) (Nat.lt_of_lt_of_le hlt h.size) (h.a2 b off (fun c=>by rcases h1 b c with c | c;exact hb c;omega) hlt hA)
section
variable {fid:Nat→FuncId} {w w':World} {A A':Av} {ι ι':Io} {C:Nat→Prop}
theorem add_block (a:Addr) (k:Nat):(a.add k).block=a.block:=by unfold Addr.add;split<;>rfl
theorem Keep.celAdd (K:Keep w w' A A' C) (ad:Addr) (k:Nat) (v:Value) (hA:¬A ad.block (ad.off+k)) (h:w.cell? (ad.add k)=some v) :
  ¬A' ad.block (ad.off+k)∧w'.cell? (ad.add k)=some v:=by
 have hlt:ad.block<w.heap.size:=by have:=World.block_lt_of_cell? w (ad.add k) h;rwa [add_block] at this
 refine ⟨fun h'=>?_,?_⟩
 ·rcases K.a1 _ _ h' with a | a
  ·exact hA a
  ·omega
 ·unfold Addr.add at h ⊢
  split at h
  ·rename_i hk
   subst hk
   simp only [Nat.add_zero] at hA
   rw [if_pos rfl]
   obtain ⟨b,off,spot⟩:=ad
   cases spot with
   | none=>exact K.cel b off v hA h
   | some s =>
    exfalso
    unfold World.cell? at h
    split at h<;>simp at h
  ·rename_i hk
   rw [if_neg hk]
   exact K.cel _ _ v hA h
theorem LV.keep_both (fid:Nat→FuncId) (K:Keep w w' A A' C) (hι:∀ id q,ι id=some q→ι' id=some q) :
  (∀ {r:Bool} {v:Value} {d:D} {O:List Nat},LV fid w A ι r v d O→(∀ b,b∈O→¬C b)→LV fid w' A' ι' r v d O) ∧
  (∀ {r:Bool} {vs:List Value} {ds:List D} {O:List Nat},LVs fid w A ι r vs ds O→(∀ b,b∈O→¬C b)→LVs fid w' A' ι' r vs ds O):=by
 have key:∀ {r:Bool} {v:Value} {d:D} {O:List Nat},(h:LV fid w A ι r v d O)→(∀ b,b∈O→¬C b)→LV fid w' A' ι' r v d O:=by
  intro r v d O h
  refine LV.rec (motive_1:=fun r v d O _=>(∀ b,b∈O→¬C b)→LV fid w' A' ι' r v d O)
   (motive_2:=fun r vs ds O _=>(∀ b,b∈O→¬C b)→LVs fid w' A' ι' r vs ds O) ?_ ?_ ?_ ?_ ?_ ?_ ?_ ?_ ?_ ?_ ?_ ?_ ?_ ?_ ?_ ?_ ?_ ?_ ?_ h
  ·intro r v h _;exact .sc v h
  ·intro r v _;exact .un v
  ·intro r v h _;exact .uk v h
  ·intro r _;exact .nl
  ·intro r a _;exact .sn a
  ·intro r f vs ds O _ ih hO;exact .fn f vs ds O (ih hO)
  ·intro r vs ds O _ ih hO;exact .agg vs ds O (ih hO)
  ·intro r vs ds O _ ih hO;exact .tup vs ds O (ih hO)
  ·intro r a n cap sz ds vs hn hc hu _ h1 hr ih _
   refine .sl a n cap sz ds vs hn hc hu (ih (by simp)) h1 fun k v hk=>?_
   obtain ⟨ad,e,hA,hcell⟩:=hr k v hk
   exact ⟨ad,e,K.celAdd ad k v hA hcell⟩
  ·intro r ad ds vs _ h1 hr ih _
   refine .ep ad ds vs (ih (by simp)) h1 fun k v hk=>?_
   exact K.celAdd ad k v (hr k v hk).1 (hr k v hk).2
  ·intro r a wr sz _;exact .osln a wr sz
  ·intro r b cap sz wr ds vs cs T fr hb hf hu _ h1 hr hc hs ha hA ih hO
   have hb':=K.blk b (hO b (by simp)) (lt_of_heap hb)
   exact .osl b cap sz wr ds vs cs T fr (hb'.trans hb) hf hu (ih (by simp)) h1 hr hc hs
    (fun e off=>K.a2 b off (hO b (by simp)) (lt_of_heap hb) (ha e off)) (fun off ho=>K.a2 b off (hO b (by simp)) (lt_of_heap hb) (hA off ho))
  ·intro r b vs ds O T fr hb hf _ h1 hA ih hO
   have hb':=K.blk b (hO b (by simp)) (lt_of_heap hb)
   exact .obx b vs ds O T fr (hb'.trans hb) hf (ih (fun x hx=>hO x (by simp [hx]))) h1 (fun off=>K.a2 b off (hO b (by simp)) (lt_of_heap hb) (hA off))
  ·intro r b es c ks xs hb _ _ hA ih1 ih2 hO
   have hb':=K.blk b (hO b (by simp)) (lt_of_heap hb)
   exact .omp b es c ks xs (hb'.trans hb) (ih1 (by simp)) (ih2 (by simp)) (fun off=>K.a2 b off (hO b (by simp)) (lt_of_heap hb) (hA off))
  ·intro a id sz off len cap q hi h0 h1 _
   refine .rf a id sz off len cap q (hι id q hi) h0 fun b e=>?_
   obtain ⟨e1,e2,cs,T,fr,hb,hs⟩:=h1 b e
   obtain ⟨cs',fr',hb',es⟩:=K.siz b cs T fr hb
   exact ⟨e1,e2,cs',T,fr',hb',by rw [es];exact hs⟩
  ·intro id sz e off b hi _;exact .pt id sz e off b (hι id _ hi)
  ·intro id b hi _;exact .mp id b (hι id _ hi)
  ·intro r _;exact .nil
  ·intro r v d O vs ds Os _ _ ih1 ih2 hO
   exact .cons v d O vs ds Os (ih1 fun b hb=>hO b (by simp [hb])) (ih2 fun b hb=>hO b (by simp [hb]))
 refine ⟨key,?_⟩
 intro r vs
 induction vs with
 | nil=>intro ds O h _;cases h;exact .nil
 | cons v vs ih =>
  intro ds O h hO
  cases h with
  | cons _ d O1 _ ds O2 h hs =>
   exact .cons v d O1 vs ds O2 (key h fun b hb=>hO b (by simp [hb])) (ih hs fun b hb=>hO b (by simp [hb]))
theorem LV.keep {fid:Nat→FuncId} (K:Keep w w' A A' C) (hι:∀ id q,ι id=some q→ι' id=some q) {r:Bool} {v:Value} {d:D} {O:List Nat}
  (h:LV fid w A ι r v d O) (hO:∀ b,b∈O→¬C b):LV fid w' A' ι' r v d O:=(LV.keep_both fid K hι).1 h hO
theorem LVs.keep {fid:Nat→FuncId} (K:Keep w w' A A' C) (hι:∀ id q,ι id=some q→ι' id=some q) {r:Bool} {vs:List Value} {ds:List D} {O:List Nat}
  (h:LVs fid w A ι r vs ds O) (hO:∀ b,b∈O→¬C b):LVs fid w' A' ι' r vs ds O:=(LV.keep_both fid K hι).2 h hO
theorem LV.weak_both {fid:Nat→FuncId} {w:World} {A:Av} {ι ι':Io} :
  (∀ {v:Value} {d:D} {O:List Nat},LV fid w A ι false v d O→∀ r',LV fid w A ι' r' v d O) ∧
  (∀ {vs:List Value} {ds:List D} {O:List Nat},LVs fid w A ι false vs ds O→∀ r',LVs fid w A ι' r' vs ds O):=by
 have key:∀ {r:Bool} {v:Value} {d:D} {O:List Nat},LV fid w A ι r v d O→r=false→∀ r',LV fid w A ι' r' v d O:=by
  intro r v d O h
  refine LV.rec (motive_1:=fun r v d O _=>r=false→∀ r',LV fid w A ι' r' v d O)
   (motive_2:=fun r vs ds O _=>r=false→∀ r',LVs fid w A ι' r' vs ds O) ?_ ?_ ?_ ?_ ?_ ?_ ?_ ?_ ?_ ?_ ?_ ?_ ?_ ?_ ?_ ?_ ?_ ?_ ?_ h
  ·intro r v h _ _;exact .sc v h
  ·intro r v _ _;exact .un v
  ·intro r v h _ _;exact .uk v h
  ·intro r _ _;exact .nl
  ·intro r a _ _;exact .sn a
  ·intro r f vs ds O _ ih e r';exact .fn f vs ds O (ih e r')
  ·intro r vs ds O _ ih e r';exact .agg vs ds O (ih e r')
  ·intro r vs ds O _ ih e r';exact .tup vs ds O (ih e r')
  ·intro r a n cap sz ds vs hn hc hu _ h1 hr ih _ _;exact .sl a n cap sz ds vs hn hc hu (ih rfl false) h1 hr
  ·intro r ad ds vs _ h1 hr ih _ _;exact .ep ad ds vs (ih rfl false) h1 hr
  ·intro r a wr sz _ _;exact .osln a wr sz
  ·intro r b cap sz wr ds vs cs T fr hb hf hu _ h1 hr hc hs ha hA ih _ _
   exact .osl b cap sz wr ds vs cs T fr hb hf hu (ih rfl false) h1 hr hc hs ha hA
  ·intro r b vs ds O T fr hb hf _ h1 hA ih e r';exact .obx b vs ds O T fr hb hf (ih e r') h1 hA
  ·intro r b es c ks xs hb _ _ hA ih1 ih2 _ _;exact .omp b es c ks xs hb (ih1 rfl false) (ih2 rfl false) hA
  ·intro a id sz off len cap q hi h0 h1 e;cases e
  ·intro id sz e off b hi e;cases e
  ·intro id b hi e;cases e
  ·intro r _ _;exact .nil
  ·intro r v d O vs ds Os _ _ ih1 ih2 e r';exact .cons v d O vs ds Os (ih1 e r') (ih2 e r')
 refine ⟨fun h r'=>key h rfl r',?_⟩
 intro vs
 induction vs with
 | nil=>intro ds O h r';cases h;exact .nil
 | cons v vs ih =>
  intro ds O h r'
  cases h with
  | cons _ d O1 _ ds O2 h hs=>exact .cons v d O1 vs ds O2 (key h rfl r') (ih hs r')
theorem LV.weak {fid:Nat→FuncId} {w:World} {A:Av} {ι ι':Io} {r:Bool} {v:Value} {d:D} {O:List Nat} (h:LV fid w A ι false v d O):LV fid w A ι' r v d O:=LV.weak_both.1 h r
theorem LVs.weak {fid:Nat→FuncId} {w:World} {A:Av} {ι ι':Io} {r:Bool} {vs:List Value} {ds:List D} {O:List Nat} (h:LVs fid w A ι false vs ds O):LVs fid w A ι' r vs ds O:=LV.weak_both.2 h r
section
variable {fid:Nat→FuncId} {w:World} {A:Av} {ι:Io} {r:Bool}
theorem LVs.length_eq {vs:List Value} {ds:List D} {O:List Nat} (h:LVs fid w A ι r vs ds O):vs.length=ds.length:=by
 induction vs generalizing ds O with
 | nil=>cases h;rfl
 | cons v vs ih=>cases h with | cons _ d O1 _ ds O2 h hs=>simp [ih hs]
theorem LV.noTree_both :
  (∀ {v:Value} {d:D} {O:List Nat},LV fid w A ι r v d O→noTree d=true→O=[]) ∧
  (∀ {vs:List Value} {ds:List D} {O:List Nat},LVs fid w A ι r vs ds O→noTrees ds=true→O=[]):=by
 have key:∀ {v:Value} {d:D} {O:List Nat},LV fid w A ι r v d O→noTree d=true→O=[]:=by
  intro v d O h
  refine LV.rec (motive_1:=fun r v d O _=>noTree d=true→O=[]) (motive_2:=fun r vs ds O _=>noTrees ds=true→O=[]) ?_ ?_ ?_ ?_ ?_ ?_ ?_ ?_ ?_ ?_ ?_ ?_ ?_ ?_ ?_ ?_ ?_ ?_ ?_ h <;>
   intros<;>first | rfl | (rename_i ih e;exact ih (by simpa [noTree] using e)) | (rename_i e;simp [noTree] at e;done) | skip
  rename_i ih1 ih2 e
  simp only [noTrees,Bool.and_eq_true] at e
  rw [ih1 e.1,ih2 e.2];rfl
 refine ⟨key,?_⟩
 intro vs
 induction vs with
 | nil=>intro ds O h _;cases h;rfl
 | cons v vs ih =>
  intro ds O h e
  cases h with
  | cons _ d O1 _ ds O2 h hs =>
   simp only [noTrees,Bool.and_eq_true] at e
   rw [key h e.1,ih hs e.2];rfl
theorem LV.noTree {v:Value} {d:D} {O:List Nat} (h:LV fid w A ι r v d O) (e:noTree d=true):O=[]:=LV.noTree_both.1 h e
theorem LVs.noTree {vs:List Value} {ds:List D} {O:List Nat} (h:LVs fid w A ι r vs ds O) (e:noTrees ds=true):O=[]:=LV.noTree_both.2 h e
theorem LV.ro_both :
  (∀ {v:Value} {d:D} {O:List Nat},LV fid w A ι r v d O→isRO d=true→LV fid w A ι false v d []) ∧
  (∀ {vs:List Value} {ds:List D} {O:List Nat},LVs fid w A ι r vs ds O→isROs ds=true→LVs fid w A ι false vs ds []):=by
 have key:∀ {v:Value} {d:D} {O:List Nat},LV fid w A ι r v d O→isRO d=true→LV fid w A ι false v d []:=by
  intro v d O h
  refine LV.rec (motive_1:=fun r v d O _=>isRO d=true→LV fid w A ι false v d []) (motive_2:=fun r vs ds O _=>isROs ds=true→LVs fid w A ι false vs ds [])
   ?_ ?_ ?_ ?_ ?_ ?_ ?_ ?_ ?_ ?_ ?_ ?_ ?_ ?_ ?_ ?_ ?_ ?_ ?_ h
  ·intro r v h _;exact .sc v h
  ·intro r v _;exact .un v
  ·intro r v h _;exact .uk v h
  ·intro r _;exact .nl
  ·intro r a _;exact .sn a
  ·intro r f vs ds O _ ih e;exact .fn f vs ds [] (ih (by simpa [isRO] using e))
  ·intro r vs ds O _ ih e;exact .agg vs ds [] (ih (by simpa [isRO] using e))
  ·intro r vs ds O _ ih e;exact .tup vs ds [] (ih (by simpa [isRO] using e))
  ·intro r a n cap sz ds vs hn hc hu h h1 hr ih _;exact .sl a n cap sz ds vs hn hc hu h h1 hr
  ·intro r ad ds vs h h1 hr ih _;exact .ep ad ds vs h h1 hr
  ·intro r a wr sz e;simp [isRO] at e
  ·intros;rename_i e;simp [isRO] at e
  ·intros;rename_i e;simp [isRO] at e
  ·intros;rename_i e;simp [isRO] at e
  ·intros;rename_i e;simp [isRO] at e
  ·intros;rename_i e;simp [isRO] at e
  ·intros;rename_i e;simp [isRO] at e
  ·intro r _;exact .nil
  ·intro r v d O vs ds Os _ _ ih1 ih2 e
   simp only [isROs,Bool.and_eq_true] at e
   exact .cons v d [] vs ds [] (ih1 e.1) (ih2 e.2)
 refine ⟨key,?_⟩
 intro vs
 induction vs with
 | nil=>intro ds O h _;cases h;exact .nil
 | cons v vs ih =>
  intro ds O h e
  cases h with
  | cons _ d O1 _ ds O2 h hs =>
   simp only [isROs,Bool.and_eq_true] at e
   exact .cons v d [] vs ds [] (key h e.1) (ih hs e.2)
theorem LV.ro {v:Value} {d:D} {O:List Nat} (h:LV fid w A ι r v d O) (e:isRO d=true):LV fid w A ι false v d []:=LV.ro_both.1 h e
theorem LVs.ro {vs:List Value} {ds:List D} {O:List Nat} (h:LVs fid w A ι r vs ds O) (e:isROs ds=true):LVs fid w A ι false vs ds []:=LV.ro_both.2 h e
theorem LVs.cons' {v:Value} {d:D} {vs:List Value} {ds:List D} (h:LV fid w A ι r v d []) (hs:LVs fid w A ι r vs ds []):LVs fid w A ι r (v :: vs) (d :: ds) [] :=
 LVs.cons v d [] vs ds [] h hs
theorem LVs.uncons {v:Value} {d:D} {vs:List Value} {ds:List D} (h:LVs fid w A ι r (v :: vs) (d :: ds) []):LV fid w A ι r v d []∧LVs fid w A ι r vs ds []:=by
 generalize hO:([]:List Nat)=O at h
 cases h with
 | cons _ _ O1 _ _ O2 h hs =>
  have:=List.append_eq_nil_iff.1 hO.symm
  obtain ⟨rfl,rfl⟩:=this
  exact ⟨h,hs⟩
theorem LVs.append {vs us:List Value} {ds es:List D} (h:LVs fid w A ι r vs ds []) (k:LVs fid w A ι r us es []):LVs fid w A ι r (vs++us) (ds++es) []:=by
 induction vs generalizing ds with
 | nil=>cases ds with | nil=>exact k | cons=>cases h
 | cons v vs ih =>
  cases ds with
  | nil=>cases h
  | cons d ds=>exact LVs.cons' h.uncons.1 (ih h.uncons.2)
theorem LVs.take {vs:List Value} {ds:List D} (n:Nat) (h:LVs fid w A ι r vs ds []):LVs fid w A ι r (vs.take n) (ds.take n) []:=by
 induction vs generalizing ds n with
 | nil=>cases ds with | nil=>simp;exact .nil | cons=>cases h
 | cons v vs ih =>
  cases ds with
  | nil=>cases h
  | cons d ds =>
   cases n with
   | zero=>exact .nil
   | succ n=>exact LVs.cons' h.uncons.1 (ih n h.uncons.2)
theorem LVs.drop {vs:List Value} {ds:List D} (n:Nat) (h:LVs fid w A ι r vs ds []):LVs fid w A ι r (vs.drop n) (ds.drop n) []:=by
 induction vs generalizing ds n with
 | nil=>cases ds with | nil=>simp;exact .nil | cons=>cases h
 | cons v vs ih =>
  cases ds with
  | nil=>cases h
  | cons d ds =>
   cases n with
   | zero=>exact h
   | succ n=>exact ih n h.uncons.2
theorem LVs.get {vs:List Value} {ds:List D} (h:LVs fid w A ι r vs ds []) {k:Nat} {d:D} (hk:ds[k]? = some d):∃ v,vs[k]? = some v∧LV fid w A ι r v d []:=by
 induction vs generalizing ds k with
 | nil=>cases ds with | nil=>simp at hk | cons=>cases h
 | cons v vs ih =>
  cases ds with
  | nil=>cases h
  | cons e ds =>
   cases k with
   | zero=>simp at hk;subst hk;exact ⟨v,rfl,h.uncons.1⟩
   | succ k=>simp at hk;simpa using ih h.uncons.2 hk
theorem LVs.nil_of {vs:List Value} (h:LVs fid w A ι r vs [] []):vs=[]:=by cases h;rfl
theorem LVs.replicate {v:Value} {d:D} (n:Nat) (h:LV fid w A ι r v d []):LVs fid w A ι r (List.replicate n v) (List.replicate n d) []:=by
 induction n with
 | zero=>exact .nil
 | succ n ih=>exact LVs.cons' h ih
theorem noTree_ne {d:D} (h:Lg.noTree d=true):d≠ .un:=by rintro rfl;simp [Lg.noTree] at h
theorem cells_ne {d:D} (h:d.cells.all isCellD=true):d≠ .un:=by rintro rfl;simp [D.cells,isCellD] at h
theorem LV.cells {v:Value} {d:D} {O:List Nat} (h:LV fid w A ι r v d O) (hne:d≠ .un):LVs fid w A ι r v.cells.toList d.cells O:=by
 have one:∀ {v:Value} {d:D} {O:List Nat},LV fid w A ι r v d O→v.cells=#[v]→d.cells=[d]→LVs fid w A ι r v.cells.toList d.cells O:=by
  intro v d O h e1 e2
  rw [e1,e2]
  have:=LVs.cons v d O [] [] [] h .nil
  simpa using this
 cases h with
 | agg vs ds _ h=>exact h
 | un v=>exact (hne rfl).elim
 | sc v hv =>
  refine one (.sc v hv) ?_ rfl
  cases v<;>simp [isSc] at hv<;>rfl
 | uk v hv =>
  refine one (.uk v hv) ?_ rfl
  cases v<;>simp [Value.oneCell'] at hv<;>rfl
 | nl=>exact one .nl rfl rfl
 | sn a=>exact one (.sn a) rfl rfl
 | fn f vs ds _ h=>exact one (.fn f vs ds O h) rfl rfl
 | tup vs ds _ h=>exact one (.tup vs ds O h) rfl rfl
 | sl a n cap sz ds vs hn hc hu h h1 hr=>exact one (.sl a n cap sz ds vs hn hc hu h h1 hr) rfl rfl
 | ep ad ds vs h h1 hr=>exact one (.ep ad ds vs h h1 hr) rfl rfl
 | osln a wr sz=>exact one (.osln a wr sz) rfl rfl
 | osl b cap sz wr ds vs cs T fr hb hf hu h h1 hr hc hs ha hA=>exact one (.osl b cap sz wr ds vs cs T fr hb hf hu h h1 hr hc hs ha hA) rfl rfl
 | obx b vs ds O T fr hb hf h h1 hA=>exact one (.obx b vs ds O T fr hb hf h h1 hA) rfl rfl
 | omp b es c ks xs hb hk hx hA=>exact one (.omp b es c ks xs hb hk hx hA) rfl rfl
 | rf a id sz off len cap q hi h0 h1=>exact one (.rf a id sz off len cap q hi h0 h1) rfl rfl
 | pt id sz e off b hi=>exact one (.pt id sz e off b hi) rfl rfl
 | mp id b hi=>exact one (.mp id b hi) rfl rfl
end
end
end Lg
namespace Lg
open Go
set_option linter.unusedSectionVars false
set_option linter.unusedVariables false
set_option linter.unusedSimpArgs false
def newA (A:Av) (n:Nat):Av:=fun b off=>A b off∨b=n
theorem setRow_heap_ne (w:World) (g:Nat) (cs:Array Value) (b:Nat) (h:b≠g):(w.setRow g cs).heap[b]? = w.heap[b]?:=by
 unfold World.setRow
 simp only [Array.getElem?_modify]
 rw [if_neg (by omega)]
theorem setRow_size (w:World) (g:Nat) (cs:Array Value):(w.setRow g cs).heap.size=w.heap.size:=by
 unfold World.setRow;simp
theorem alloc_heap_lt (w:World) (o:Obj) (b:Nat) (h:b<w.heap.size):(w.alloc o).heap[b]? = w.heap[b]?:=by
 show (w.heap.push o)[b]? = _
 rw [Array.getElem?_push,if_neg (by omega)]
theorem alloc_heap_new (w:World) (o:Obj):(w.alloc o).heap[w.heap.size]? = some o:=by
 show (w.heap.push o)[w.heap.size]? = _
 simp
theorem alloc_size (w:World) (o:Obj):(w.alloc o).heap.size=w.heap.size+1:=by
 show (w.heap.push o).size=_
 simp
theorem cell_of_heap {w w':World} {b:Nat} (h:w'.heap[b]? = w.heap[b]?) (off:Nat):w'.cell? ⟨b,off,none⟩=w.cell? ⟨b,off,none⟩:=by
 simp [World.cell?,h]
theorem cell_some {w:World} {b off:Nat} {v:Value} (h:w.cell? ⟨b,off,none⟩=some v):∃ cs T fr,w.heap[b]? = some (.cells cs T fr)∧cs[off]? = some v:=by
 unfold World.cell? at h
 simp only at h
 split at h
 ·rename_i c e fr hb
  exact ⟨c,e,fr,hb,by simpa using h⟩
 ·simp at h
theorem cell_of {w:World} {b off:Nat} {v:Value} {cs:Array Value} {T:TypeId} {fr:Nat×Nat} (hb:w.heap[b]? = some (.cells cs T fr)) (h:cs[off]? = some v):w.cell? ⟨b,off,none⟩=some v:=by
 simp [World.cell?,hb,h]
theorem Keep.alloc (w:World) (A:Av) (o:Obj):Keep w (w.alloc o) A (newA A w.heap.size) (fun _=>False):=by
 refine ⟨rfl,rfl,rfl,by rw [alloc_size];omega,fun b _ hb=>alloc_heap_lt w o b hb,?_,?_,?_,?_⟩
 ·intro b off v _ h
  have hlt:b<w.heap.size:=World.block_lt_of_cell? w ⟨b,off,none⟩ h
  rw [cell_of_heap (alloc_heap_lt w o b hlt)];exact h
 ·intro b cs T fr h
  exact ⟨cs,fr,by rw [alloc_heap_lt w o b (lt_of_heap h)];exact h,rfl⟩
 ·rintro b off (h | h)
  ·exact .inl h
  ·exact .inr (by rw [alloc_size];omega)
 ·exact fun b off _ _ h=> .inl h
theorem Keep.alloc0 (w:World) (A:Av) (o:Obj) (C:Nat→Prop):Keep w (w.alloc o) A A C:=by
 refine ⟨rfl,rfl,rfl,by rw [alloc_size];omega,fun b _ hb=>alloc_heap_lt w o b hb,?_,?_,fun b off h=> .inl h,fun b off _ _ h=>h⟩
 ·intro b off v _ h
  have hlt:b<w.heap.size:=World.block_lt_of_cell? w ⟨b,off,none⟩ h
  rw [cell_of_heap (alloc_heap_lt w o b hlt)];exact h
 ·intro b cs T fr h
  exact ⟨cs,fr,by rw [alloc_heap_lt w o b (lt_of_heap h)];exact h,rfl⟩
theorem Keep.same {w w':World} (hh:w'.heap=w.heap) (ho:w'.os=w.os) (ht:w'.tape=w.tape) (hu:w'.output=w.output) (A:Av) (C:Nat→Prop):Keep w w' A A C:=by
 refine ⟨ho,ht,hu,by rw [hh];exact Nat.le_refl _,fun b _ _=>by rw [hh],?_,?_,fun b off h=> .inl h,fun b off _ _ h=>h⟩
 ·intro b off v _ h;rw [cell_of_heap (w:=w) (w':=w') (by rw [hh])];exact h
 ·intro b cs T fr h;exact ⟨cs,fr,by rw [hh];exact h,rfl⟩
theorem Keep.drawn (w:World) (n:Nat) (A:Av) (C:Nat→Prop):Keep w {w with drawn:=n} A A C:=Keep.same (w:=w) (w':={w with drawn:=n}) rfl rfl rfl rfl A C
theorem Keep.setRow {w:World} {A:Av} {g:Nat} {cs cs':Array Value} {T:TypeId} {fr:Nat×Nat} (hb:w.heap[g]? = some (.cells cs T fr)) (hs:cs'.size=cs.size)
  (hA:∀ off,¬A g off→cs'[off]? = cs[off]?):Keep w (w.setRow g cs') A A (fun b=>b=g):=by
 refine ⟨rfl,rfl,rfl,by rw [setRow_size];exact Nat.le_refl _,fun b hne _=>setRow_heap_ne w g cs' b hne,?_,?_,fun b off h=> .inl h,fun b off _ _ h=>h⟩
 ·intro b off v hn h
  by_cases e:b=g
  ·subst e
   obtain ⟨c,T',fr',hb',hc⟩:=cell_some h
   rw [hb] at hb'
   injection hb' with hb'
   injection hb' with e1 e2 e3
   subst e1
   exact cell_of (setRow_heap w b cs cs' T fr hb) (by rw [hA off hn];exact hc)
  ·rw [cell_of_heap (setRow_heap_ne w g cs' b e)];exact h
 ·intro b c T' fr' h
  by_cases e:b=g
  ·subst e
   rw [hb] at h
   injection h with h
   injection h with e1 e2 e3
   subst e1;subst e2;subst e3
   exact ⟨cs',fr,setRow_heap w b cs cs' T fr hb,hs⟩
  ·exact ⟨c,fr',by rw [setRow_heap_ne w g cs' b e];exact h,rfl⟩
theorem run_storeCells_okfr (P:Program) (g o:Nat) (t:TypeId) (fz:Nat×Nat):∀ (vs:List Value) (i:Nat) (cur:Array Value) (w:World),w.heap[g]? = some (.cells cur t fz)→okfr cur.size fz→o+i+vs.length≤cur.size→(∀ v∈vs,v.oneCell'=true) →
  (storeCells ⟨g,o,none⟩ vs i).run P w = .ok () (w.setRow g (cur.toList.take (o+i)++vs++cur.toList.drop (o+i+vs.length)).toArray)
 | [],i,cur,w,hg,_,_,_=>by
  simp only [storeCells,List.append_nil,List.length_nil,Nat.add_zero,List.take_append_drop,Array.toArray_toList]
  rw [setRow_self w g cur t fz hg]
  rfl
 | v :: rest,i,cur,w,hg,hfz,hl,h1=>by
  have hi:o+i<cur.size:=by simp at hl;omega
  have hadd:(⟨g,o,none⟩:Addr).add i=⟨g,o+i,none⟩:=by unfold Addr.add;split<;>simp_all
  have hcell:w.cell? ⟨g,o+i,none⟩=some cur[o+i]:=by simp [World.cell?,hg,hi]
  have hfro:w.frozen? ⟨g,o+i,none⟩=false:=by
   have:=hfz.at (o+i) hi
   obtain ⟨lo,hi'⟩:=fz
   simp only [World.frozen?,hg,Bool.and_eq_false_iff,decide_eq_false_iff_not]
   simp only at this
   omega
  have hst:(store ((⟨g,o,none⟩:Addr).add i) v).run P w = .ok () (w.setRow g (cur.setIfInBounds (o+i) v)):=by
   rw [hadd,run_store P w _ v _ (h1 v (by simp)),hcell]
   simp [hfro,setCell_eq_setRow w g (o+i) cur t fz v hg]
  have ih:=run_storeCells_okfr P g o t fz rest (i+1) (cur.setIfInBounds (o+i) v) (w.setRow g (cur.setIfInBounds (o+i) v)) (setRow_heap w g cur _ t _ hg) (by simpa using hfz) (by simp at hl ⊢;omega) (fun x hx=>h1 x (by simp [hx]))
  simp only [storeCells,Sem.run_bind,hst,Result.andThen_ok,ih,setRow_setRow]
  congr 3
  have hx:(cur.setIfInBounds (o+i) v).toList=cur.toList.set (o+i) v:=by simp
  rw [hx]
  have h2:(cur.toList.set (o+i) v).take (o+(i+1))=cur.toList.take (o+i)++[v]:=by
   rw [show o+(i+1)=o+i+1 by omega,List.take_set,List.take_succ_eq_append_getElem (by simpa using hi)]
   simp [List.set_append_right,hi,Nat.min_eq_left (Nat.le_of_lt hi)]
  have h3:(cur.toList.set (o+i) v).drop (o+(i+1)+rest.length)=cur.toList.drop (o+i+(v :: rest).length):=by
   rw [List.drop_set_of_lt (by omega)]
   congr 1
   simp;omega
  rw [h2,h3]
  simp
theorem splice_get (cur vs:List Value) (o:Nat) (h:o+vs.length≤cur.length) (k:Nat) :
  (cur.take o++vs++cur.drop (o+vs.length))[k]? = if k<o then cur[k]? else if k<o+vs.length then vs[k-o]? else cur[k]?:=by
 have ht:(cur.take o).length=o:=by simp;omega
 rw [List.append_assoc,List.getElem?_append]
 rw [ht]
 split
 ·rename_i hk;rw [List.getElem?_take];simp [hk]
 ·rename_i hk
  rw [List.getElem?_append]
  split
  ·rename_i hk2;rw [if_pos (by omega)]
  ·rename_i hk2
   rw [if_neg (by omega),List.getElem?_drop]
   congr 1;omega
theorem splice_size (cur vs:List Value) (o:Nat) (h:o+vs.length≤cur.length):(cur.take o++vs++cur.drop (o+vs.length)).length=cur.length:=by
 simp;omega
end Lg
namespace Lg
open Go
set_option linter.unusedSectionVars false
set_option linter.unusedVariables false
set_option linter.unusedSimpArgs false
def alive:Ob→Bool
 | .dead=>false
 | _=>true
def obAt (H:List Ob) (i:Nat):Ob:=(H[i]?).getD .dead
def OwnB (fid:Nat→FuncId) (w:World) (A:Av) (b:Nat) (wr:Bool) (sz:Nat) (ds:List D):Prop :=
 ∃ (cs:Array Value) (T:TypeId) (fr:Nat×Nat) (vs:List Value),w.heap[b]? = some (.cells cs T fr)∧okfr cs.size fr∧(∀ d,d∈ds→d.cells.length=sz) ∧
  LVs fid w A (fun _=>none) false vs (flat ds) []∧(∀ v,v∈vs→v.oneCell'=true)∧(∀ (k:Nat) (v:Value),vs[k]? = some v→cs[k]? = some v) ∧
  (wr=true→∀ off,A b off)∧(∀ off,vs.length≤off→A b off)
def ObjOK (fid:Nat→FuncId) (w:World) (A:Av) (ι:Io) (q:Option (Option Nat)):Ob→Prop
 | .bx ds=>∃ (b:Nat) (vs:List Value) (T:TypeId) (fr:Nat×Nat),q=some (some b)∧w.heap[b]? = some (.cells ⟨vs⟩ T fr)∧okfr vs.length fr∧LVs fid w A ι true vs ds []∧(∀ v,v∈vs→v.oneCell'=true)∧∀ off,A b off
 | .ow wr sz ds=>(q=some none∧ds=[])∨∃ b,q=some (some b)∧OwnB fid w A b wr sz ds
 | .mpo ks xs=>∃ (b:Nat) (es:Array MapEntry) (c:Nat),q=some (some b)∧w.heap[b]? = some (.map es c)∧LVs fid w A (fun _=>none) false (es.toList.map (·.key)) ks [] ∧
   LVs fid w A (fun _=>none) false (es.toList.map (·.val)) xs []∧∀ off,A b off
 | .dead=>True
theorem OwnB.keep {fid:Nat→FuncId} {w w':World} {A A':Av} {C:Nat→Prop} (K:Keep w w' A A' C) {b:Nat} {wr:Bool} {sz:Nat} {ds:List D} (h:OwnB fid w A b wr sz ds) (hb:¬C b):OwnB fid w' A' b wr sz ds:=by
 obtain ⟨cs,T,fr,vs,h1,h2,h3,h4,h5,h6,h7,h8⟩:=h
 have hlt:=lt_of_heap h1
 exact ⟨cs,T,fr,vs,(K.blk b hb hlt).trans h1,h2,h3,LVs.keep K (fun _ _ e=>e) h4 (by simp),h5,h6,fun e off=>K.a2 b off hb hlt (h7 e off),fun off ho=>K.a2 b off hb hlt (h8 off ho)⟩
theorem ObjOK.keep {fid:Nat→FuncId} {w w':World} {A A':Av} {ι ι':Io} {C:Nat→Prop} (K:Keep w w' A A' C) (hι:∀ id q,ι id=some q→ι' id=some q)
  {q:Option (Option Nat)} {o:Ob} (h:ObjOK fid w A ι q o) (hC:∀ b,alive o=true→q=some (some b)→¬C b):ObjOK fid w' A' ι' q o:=by
 cases o with
 | bx ds =>
  obtain ⟨b,vs,T,fr,e,h1,h2,h3,h4,h5⟩:=h
  have hb:=hC b rfl e
  exact ⟨b,vs,T,fr,e,(K.blk b hb (lt_of_heap h1)).trans h1,h2,LVs.keep K hι h3 (by simp),h4,fun off=>K.a2 b off hb (lt_of_heap h1) (h5 off)⟩
 | ow wr sz ds =>
  rcases h with h | ⟨b,e,h⟩
  ·exact .inl h
  ·exact .inr ⟨b,e,h.keep K (hC b rfl e)⟩
 | mpo ks xs =>
  obtain ⟨b,es,c,e,h1,h2,h3,h5⟩:=h
  have hb:=hC b rfl e
  exact ⟨b,es,c,e,(K.blk b hb (lt_of_heap h1)).trans h1,LVs.keep K (fun _ _ e=>e) h2 (by simp),LVs.keep K (fun _ _ e=>e) h3 (by simp),fun off=>K.a2 b off hb (lt_of_heap h1) (h5 off)⟩
 | dead=>trivial
structure Sep (Cb:Nat→Prop) (ι:Io) (H:List Ob) (own:Nat→List Nat):Prop where
 len:∀ i,H.length≤i→ι i=none
 ib:∀ i b,alive (obAt H i)=true→ι i=some (some b)→Cb b
 inj:∀ i j b,alive (obAt H i)=true→alive (obAt H j)=true→ι i=some (some b)→ι j=some (some b)→i=j
 tb:∀ t b,b∈own t→Cb b
 to:∀ t b i,b∈own t→alive (obAt H i)=true→ι i≠some (some b)
 nd:∀ t,(own t).Nodup
 ap:∀ t t' b,b∈own t→b∈own t'→t=t'
abbrev Nt:=(Nat→Bool)×(Nat→Value)
structure St (fid:Nat→FuncId) (w0:World) (A0:Av) (Cb:Nat→Prop) (nt:Nt) (w:World) (A:Av) (ι:Io) (a:Act) (E:Env) (H:List Ob) (own:Nat→List Nat):Prop where
 kp:Keep w0 w A0 A Cb
 al:∀ b off,A b off→b<w.heap.size
 cb:∀ b,w0.heap.size≤b→Cb b
 sz:∀ d,nt.1 d=true→d<a.tmps.size
 fx:∀ t,nt.1 t=false→a.tmps.getD t undef=nt.2 t
 df:a.defers=[]
 lv:∀ t,LV fid w A ι true (a.tmps.getD t undef) (lk E t) (own t)
 ob:∀ i,ObjOK fid w A ι (ι i) (obAt H i)
 sp:Sep Cb ι H own
theorem obAt_set (H:List Ob) (i j:Nat) (o:Ob):obAt (H.set i o) j=if i=j∧j<H.length then o else obAt H j:=by
 unfold obAt
 rw [List.getElem?_set]
 by_cases e:i=j
 ·subst e
  by_cases hl:i<H.length
  ·simp [hl]
  ·simp [hl]
 ·simp [e]
theorem obAt_append (H:List Ob) (o:Ob) (j:Nat):obAt (H++[o]) j=if j=H.length then o else obAt H j:=by
 unfold obAt
 rw [List.getElem?_append]
 by_cases h:j<H.length
 ·rw [if_pos h,if_neg (by omega)]
 ·rw [if_neg h]
  by_cases e:j=H.length
  ·subst e;simp
  ·rw [if_neg e]
   have:(H[j]? : Option Ob)=none:=List.getElem?_eq_none (by omega)
   rw [this]
   have:([o][j-H.length]? : Option Ob)=none:=List.getElem?_eq_none (by simp;omega)
   rw [this]
theorem obAt_of {H:List Ob} {i:Nat} {o:Ob} (h:H[i]? = some o):obAt H i=o:=by simp [obAt,h]
theorem lt_of_get {H:List Ob} {i:Nat} {o:Ob} (h:H[i]? = some o):i<H.length:=by
 rcases Nat.lt_or_ge i H.length with hl | hl
 ·exact hl
 ·rw [List.getElem?_eq_none hl] at h;cases h
structure XR (fid:Nat→FuncId) (w w':World) (A A':Av) (ι:Io) (H:List Ob) (eo:List Nat) (v:Value) (d:D) (u:Option (Nat×Ob)) (O:List Nat):Prop where
 kp:Keep w w' A A' (fun b=>b∈eo∨∃ i o,u=some (i,o)∧ι i=some (some b))
 lv:LV fid w' A' ι true v d O
 ob:∀ i o,u=some (i,o)→ObjOK fid w' A' ι (ι i) o∧i<H.length∧alive (obAt H i)=true
 nd:O.Nodup
 fr:∀ b,b∈O→b∈eo∨(∃ i,u=some (i, .dead)∧ι i=some (some b))∨w.heap.size≤b
def obU (H:List Ob) (u:Option (Nat×Ob)) (j:Nat):Ob:=match u with | some (i,o)=>if i=j then o else obAt H j | none=>obAt H j
def put1 (own:Nat→List Nat) (t:Option Nat) (O:List Nat):Nat→List Nat:=fun t'=>if t=some t' then O else own t'
def eaten (own:Nat→List Nat):Option Nat→List Nat
 | some t=>own t
 | none=>[]
theorem lk_putE (dst:Option Nat) (d:D) (E:Env) (t:Nat):lk (putE dst d E) t=if dst=some t then d else lk E t:=by
 cases dst with
 | none=>simp [putE]
 | some s=>simp only [putE,lk];by_cases h:s=t<;>simp [h]
theorem getD_put (a:Act) (dst:Option Nat) (v:Value) (t:Nat) (hd:∀ d,dst=some d→d<a.tmps.size):(a.put dst v).tmps.getD t undef=if dst=some t then v else a.tmps.getD t undef:=by
 cases dst with
 | none=>simp [Act.put]
 | some s =>
  have hs:=hd s rfl
  simp only [Act.put,Option.some.injEq,Array.getD_eq_getD_getElem?,Array.getElem?_setIfInBounds]
  by_cases h:s=t
  ·subst h;simp [hs]
  ·simp [h]
theorem put_size (a:Act) (dst:Option Nat) (v:Value):(a.put dst v).tmps.size=a.tmps.size:=by cases dst<;>simp [Act.put]
theorem put_defers (a:Act) (dst:Option Nat) (v:Value):(a.put dst v).defers=a.defers:=by cases dst<;>rfl
section
variable {fid:Nat→FuncId} {w0:World} {A0:Av} {Cb:Nat→Prop} {nt:Nt} {w:World} {A:Av} {ι:Io} {a:Act} {E:Env} {H:List Ob} {own:Nat→List Nat}
theorem St.own_lt (S:St fid w0 A0 Cb nt w A ι a E H own):∀ t b,b∈own t→b<w.heap.size:=by
 have key:∀ {r:Bool} {v:Value} {d:D} {O:List Nat},LV fid w A ι r v d O→∀ b,b∈O→b<w.heap.size:=by
  intro r v d O h
  refine LV.rec (motive_1:=fun r v d O _=>∀ b,b∈O→b<w.heap.size) (motive_2:=fun r vs ds O _=>∀ b,b∈O→b<w.heap.size)
   ?_ ?_ ?_ ?_ ?_ ?_ ?_ ?_ ?_ ?_ ?_ ?_ ?_ ?_ ?_ ?_ ?_ ?_ ?_ h
  ·intro r v h b hb;simp at hb
  ·intro r v b hb;simp at hb
  ·intro r v h b hb;simp at hb
  ·intro r b hb;simp at hb
  ·intro r a b hb;simp at hb
  ·intro r f vs ds O _ ih;exact ih
  ·intro r vs ds O _ ih;exact ih
  ·intro r vs ds O _ ih;exact ih
  ·intro r a n cap sz ds vs hn hc hu _ h1 hr ih b hb;simp at hb
  ·intro r ad ds vs _ h1 hr ih b hb;simp at hb
  ·intro r a wr sz b hb;simp at hb
  ·intro r b cap sz wr ds vs cs T fr hb hf hu _ h1 hr hc hs ha hA ih b' hb';simp at hb';subst hb';exact lt_of_heap hb
  ·intro r b vs ds O T fr hb hf _ h1 hA ih b' hb'
   rcases List.mem_cons.1 hb' with e | e
   ·subst e;exact lt_of_heap hb
   ·exact ih b' e
  ·intro r b es c ks xs hb _ _ hA ih1 ih2 b' hb';simp at hb';subst hb';exact lt_of_heap hb
  ·intro a id sz off len cap q hi h0 h1 b hb;simp at hb
  ·intro id sz e off b hi b' hb;simp at hb
  ·intro id b hi b' hb;simp at hb
  ·intro r b hb;simp at hb
  ·intro r v d O vs ds Os _ _ ih1 ih2 b hb
   rcases List.mem_append.1 hb with e | e
   ·exact ih1 b e
   ·exact ih2 b e
 exact fun t b hb=>key (S.lv t) b hb
theorem St.ob_lt (S:St fid w0 A0 Cb nt w A ι a E H own) {i b:Nat} (ha:alive (obAt H i)=true) (hi:ι i=some (some b)):b<w.heap.size:=by
 have h:=S.ob i
 rw [hi] at h
 cases ho:obAt H i with
 | bx ds=>rw [ho] at h;obtain ⟨b',vs,T,fr,e,h1,_⟩:=h;injection e with e;injection e with e;subst e;exact lt_of_heap h1
 | ow wr sz ds =>
  rw [ho] at h
  rcases h with ⟨e,_⟩ | ⟨b',e,cs,T,fr,vs,h1,_⟩
  ·cases e
  ·injection e with e;injection e with e;subst e;exact lt_of_heap h1
 | mpo ks xs=>rw [ho] at h;obtain ⟨b',es,c,e,h1,_⟩:=h;injection e with e;injection e with e;subst e;exact lt_of_heap h1
 | dead=>rw [ho] at ha;cases ha
theorem St.step (S:St fid w0 A0 Cb nt w A ι a E H own) {w':World} {A':Av} {eat dst:Option Nat} {v:Value} {d:D} {u:Option (Nat×Ob)} {O:List Nat}
  (X:XR fid w w' A A' ι H (eaten own eat) v d u O) (hd:∀ t,dst=some t→nt.1 t=true) :
  St fid w0 A0 Cb nt w' A' ι (a.put dst v) (putE dst d (putE eat .un E)) (putH u H) (put1 (put1 own eat []) dst O):=by
 have hC:∀ b,(b∈eaten own eat∨∃ i o,u=some (i,o)∧ι i=some (some b))→Cb b:=by
  rintro b (h | ⟨i,o,e,hi⟩)
  ·cases eat with
   | none=>simp [eaten] at h
   | some t=>exact S.sp.tb t b h
  ·exact S.sp.ib i b (X.ob i o e).2.2 hi
 have hObNew:∀ j,obAt (putH u H) j=obU H u j:=by
  intro j
  cases hu:u with
  | none=>rfl
  | some p =>
   obtain ⟨i,o⟩:=p
   have hl:=(X.ob i o hu).2.1
   simp only [putH,obAt_set,obU]
   by_cases e:i=j
   ·subst e;simp [hl]
   ·simp [e]
 have halive:∀ j,alive (obAt (putH u H) j)=true→alive (obAt H j)=true:=by
  intro j h
  rw [hObNew] at h
  cases hu:u with
  | none=>rw [hu] at h;exact h
  | some p =>
   obtain ⟨i,o⟩:=p
   rw [hu] at h
   simp only [obU] at h
   split at h
   ·rename_i e;subst e;exact (X.ob i o hu).2.2
   ·exact h
 have hι:∀ id q,ι id=some q→ι id=some q:=fun _ _ e=>e
 have hother:∀ t,eat≠some t→∀ b,b∈own t→¬(b∈eaten own eat∨∃ i o,u=some (i,o)∧ι i=some (some b)):=by
  rintro t hne b hb (h | ⟨i,o,e,hi⟩)
  ·cases eat with
   | none=>simp [eaten] at h
   | some s=>exact hne (by rw [S.sp.ap s t b h hb])
  ·exact S.sp.to t b i hb (X.ob i o e).2.2 hi
 refine ⟨?_,?_,S.cb,by rw [put_size];exact S.sz,?_,by rw [put_defers];exact S.df,?_,?_,?_⟩
 ·exact S.kp.trans X.kp (fun b h=> .inl h) (fun b h=> .inl (hC b h))
 ·intro b off h
  rcases X.kp.a1 b off h with h | h
  ·exact Nat.lt_of_lt_of_le (S.al b off h) X.kp.size
  ·exact h.2
 ·intro t ht
  rw [getD_put a dst v t (fun d e=>S.sz d (hd d e)),if_neg (fun e=>by rw [hd t e] at ht;cases ht)]
  exact S.fx t ht
 ·intro t
  rw [getD_put a dst v t (fun d e=>S.sz d (hd d e)),lk_putE]
  unfold put1
  by_cases e:dst=some t
  ·rw [if_pos e,if_pos e,if_pos e];exact X.lv
  ·rw [if_neg e,if_neg e,if_neg e,lk_putE]
   by_cases e':eat=some t
   ·rw [if_pos e',if_pos e']
    exact .un _
   ·rw [if_neg e',if_neg e']
    exact LV.keep X.kp hι (S.lv t) (hother t e')
 ·intro j
  rw [hObNew]
  cases hu:u with
  | none=>exact (S.ob j).keep X.kp hι (by
    rintro b ha hb (h | ⟨i,o,e,hi⟩)
    ·cases eat with
     | none=>simp [eaten] at h
     | some s=>exact S.sp.to s b j h ha hb
    ·rw [hu] at e;cases e)
  | some p =>
   obtain ⟨i,o⟩:=p
   simp only [obU]
   split
   ·rename_i e;subst e;exact (X.ob i o hu).1
   ·rename_i hne
    exact (S.ob j).keep X.kp hι (by
     rintro b ha hb (h | ⟨i',o',e,hi⟩)
     ·cases eat with
      | none=>simp [eaten] at h
      | some s=>exact S.sp.to s b j h ha hb
     ·rw [hu] at e;injection e with e;injection e with e1 e2;subst e1
      exact hne (S.sp.inj i j b (X.ob i o hu).2.2 ha hi hb))
 ·have hlen:(putH u H).length=H.length:=by cases u with | none=>rfl | some p=>simp [putH]
  have hown:∀ t b,b∈put1 (put1 own eat []) dst O t→(dst=some t∧b∈O)∨(dst≠some t∧eat≠some t∧b∈own t):=by
   intro t b h
   unfold put1 at h
   split at h
   ·rename_i e;exact .inl ⟨e,h⟩
   ·rename_i e
    split at h
    ·simp at h
    ·rename_i e';exact .inr ⟨e,e',h⟩
  have hOt:∀ b,b∈O→∀ t,dst≠some t→eat≠some t→b∉own t:=by
   intro b hb t h1 h2 hbt
   rcases X.fr b hb with h | ⟨i,e,hi⟩ | h
   ·cases eat with
    | none=>simp [eaten] at h
    | some s=>exact h2 (by rw [S.sp.ap s t b h hbt])
   ·exact S.sp.to t b i hbt (X.ob i _ e).2.2 hi
   ·have:=S.own_lt t b hbt;omega
  have hOo:∀ b,b∈O→∀ i,alive (obAt (putH u H) i)=true→ι i≠some (some b):=by
   intro b hb i ha hi
   rcases X.fr b hb with h | ⟨j,e,hj⟩ | h
   ·cases eat with
    | none=>simp [eaten] at h
    | some s=>exact S.sp.to s b i h (halive i ha) hi
   ·have:=S.sp.inj j i b (X.ob j _ e).2.2 (halive i ha) hj hi
    subst this
    rw [hObNew,e] at ha
    simp [alive,obU] at ha
   ·have:=S.ob_lt (halive i ha) hi;omega
  refine ⟨fun i hi=>S.sp.len i (by rw [←hlen];exact hi),fun i b ha hi=>S.sp.ib i b (halive i ha) hi,fun i j b h1 h2=>S.sp.inj i j b (halive i h1) (halive j h2),?_,?_,?_,?_⟩
  ·intro t b h
   rcases hown t b h with ⟨_,h⟩ | ⟨_,_,h⟩
   ·rcases X.fr b h with h | ⟨i,e,hi⟩ | h
    ·exact hC b (.inl h)
    ·exact hC b (.inr ⟨i,_,e,hi⟩)
    ·exact S.cb b (Nat.le_trans S.kp.size h)
   ·exact S.sp.tb t b h
  ·intro t b i h ha
   rcases hown t b h with ⟨_,h⟩ | ⟨_,_,h⟩
   ·exact hOo b h i ha
   ·exact S.sp.to t b i h (halive i ha)
  ·intro t
   unfold put1
   split
   ·exact X.nd
   ·split
    ·simp
    ·exact S.sp.nd t
  ·intro t t' b h h'
   rcases hown t b h with ⟨e,h⟩ | ⟨e1,e2,h⟩
   ·rcases hown t' b h' with ⟨e',h'⟩ | ⟨e1',e2',h'⟩
    ·rw [e] at e';injection e'
    ·exact (hOt b h t' e1' e2' h').elim
   ·rcases hown t' b h' with ⟨e',h'⟩ | ⟨e1',e2',h'⟩
    ·exact (hOt b h' t e1 e2 h).elim
    ·exact S.sp.ap t t' b h h'
end
end Lg
