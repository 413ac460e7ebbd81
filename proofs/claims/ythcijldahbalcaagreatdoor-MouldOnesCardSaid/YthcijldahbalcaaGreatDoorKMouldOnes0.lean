/- What the law MouldOnes rests on, part 1: a machine for the model's programs, proved sound. -/
import Derived.Calls
import Derived.Laws.Sem
import Derived.Laws.OwnMore
import Derived.Laws.Slices
import Derived.Laws.MakeOwn
import Derived.Laws.Pointers
import Derived.Laws.Small
import Derived.Laws.Tables
import Derived.Laws.BytesString
set_option linter.unusedVariables false
set_option linter.unusedSimpArgs false
section
namespace Go.PM
set_option linter.unusedVariables false
inductive DV where
  | undef
  | dead
  | bool (b : Bool)
  | int (k : IntKind) (n : Int)
  | str (s : List UInt8)
  | nilp
  | ptr (id ix off : Nat)
  | iptr (e : DV) (off : Nat)
  | list (es : List DV) (tight : Bool)
  | ref (id off len : Nat) (cap : Option Nat)
  | agg (cs : List DV)
  | tuple (vs : List DV)
  | func (f : FuncId) (cap : List DV)
  | nilf
  | iface (t : TypeId) (v : DV)
  | nili
  deriving Inhabited
structure Row where
  elems : List DV
  elem : TypeId
  sz : Nat
  ext : Option Nat
  leaf : Bool
  fz : Bool
  deriving Inhabited
inductive Blk where
  | row (r : Row)
  | siter (s : List UInt8) (pos : Nat)
  deriving Inhabited
def rowAt (rd : Nat → Option Blk) (id : Nat) : Option Row := match rd id with
  | some (.row r) => some r
  | _ => none
abbrev Env := Nat → Option DV
abbrev Heap := Nat → Option Blk
abbrev Eff := List (Nat × Option Blk)
def Env.set (e : Env) (d : Option Nat) (v : DV) : Env := match d with
  | none => e
  | some d => fun t => if t = d then some v else e t
def Heap.put (h : Heap) : Eff → Heap
  | [] => h
  | (i, b) :: r => Heap.put (fun j => if j = i then b else h j) r
inductive Mode where
  | pure | adopt | shared
  deriving DecidableEq, Inhabited
structure Cfg where
  P : Program
  mode : FuncId → Option Mode
  ext : FuncId → Option (List DV → Option (DV × List (Option Blk)))
  globs : Nat → Option DV
  fix : Nat → Option (Obj → Prop) := fun _ => none
  seqs : FuncId → Option (List DV → Option (List (List DV))) := fun _ => none
inductive Ex where
  | normal | exit (id : Nat) | ret
  deriving DecidableEq, Inhabited
structure St where
  env : Env
  heap : Heap
  top : Nat
  base : Nat
inductive Req where
  | call (f : FuncId) (args : List DV) (hs : List (Option Blk))
  | loop (f : FuncId) (path : List Bool) (base : Nat) (vals : List (Option DV)) (hs : List (Option Blk))
  | each (f : FuncId) (path : List Bool) (base : Nat) (xs : List (List DV)) (vals : List (Option DV)) (hs : List (Option Blk))
inductive Res where
  | done (v : DV) (hs : List (Option Blk))
  | left (e : Ex) (vals : List (Option DV)) (hs : List (Option Blk))
  deriving Inhabited
def DV.cells : DV → List DV
  | .agg cs => cs
  | v => [v]
def DV.storable : DV → Bool
  | .tuple _ | .undef => false
  | _ => true
mutual
def DV.imm : DV → Bool
  | .ptr .. | .ref .. | .dead => false
  | .agg cs => DV.imms cs
  | .tuple vs => DV.imms vs
  | .func _ cs => DV.imms cs
  | .iface _ v => v.imm
  | _ => true
def DV.imms : List DV → Bool
  | [] => true
  | v :: r => v.imm && DV.imms r
end
mutual
def DV.scalar : DV → Bool
  | .ptr .. | .ref .. | .dead | .iptr .. => false
  | .list es _ => false
  | .agg cs => DV.scalars cs
  | .tuple vs => DV.scalars vs
  | .func _ cs => DV.scalars cs
  | .iface _ v => v.scalar
  | _ => true
def DV.scalars : List DV → Bool
  | [] => true
  | v :: r => v.scalar && DV.scalars r
end
mutual
def DV.ids : DV → List Nat
  | .ptr id _ _ => [id]
  | .ref id _ _ _ => [id]
  | .agg cs => DV.idss cs
  | .tuple vs => DV.idss vs
  | .func _ cs => DV.idss cs
  | .iface _ v => v.ids
  | _ => []
def DV.idss : List DV → List Nat
  | [] => []
  | v :: r => v.ids ++ DV.idss r
end
mutual
def DV.ren (ρ : Nat → Option Nat) : DV → DV
  | .ptr id ix off => match ρ id with | some j => .ptr j ix off | none => .dead
  | .ref id off len cap => match ρ id with | some j => .ref j off len cap | none => .dead
  | .agg cs => .agg (DV.rens ρ cs)
  | .tuple vs => .tuple (DV.rens ρ vs)
  | .func f cs => .func f (DV.rens ρ cs)
  | .iface t v => .iface t (v.ren ρ)
  | v => v
def DV.rens (ρ : Nat → Option Nat) : List DV → List DV
  | [] => []
  | v :: r => v.ren ρ :: DV.rens ρ r
end
mutual
def DV.freeze (rd : Nat → Option Blk) : DV → Option DV
  | .ptr id ix off => match rowAt rd id with
    | some b => match b.elems[ix]? with
      | some e => if DV.imms b.elems then some (.iptr e off) else none
      | none => none
    | none => none
  | .dead => none
  | .ref id off len _ => match rowAt rd id with
    | some b => if b.leaf && off + len ≤ b.elems.length then some (.list ((b.elems.drop off).take len) false) else none
    | none => none
  | .agg cs => (DV.freezes rd cs).map .agg
  | .tuple vs => (DV.freezes rd vs).map .tuple
  | .func f cs => (DV.freezes rd cs).map (.func f)
  | .iface t v => (v.freeze rd).map (.iface t)
  | .list es _ => some (.list es false)
  | v => some v
def DV.freezes (rd : Nat → Option Blk) : List DV → Option (List DV)
  | [] => some []
  | v :: r => match v.freeze rd, DV.freezes rd r with
    | some a, some l => some (a :: l)
    | _, _ => none
end
mutual
def ofConst : Value → Option DV
  | .bool b => some (.bool b)
  | .int k n => some (.int k n)
  | .string s => some (.str s.data.toList)
  | .pointer none => some .nilp
  | .slice none 0 0 => some (.list [] true)
  | .nilFunc => some .nilf
  | .nilIface => some .nili
  | .agg cs => (ofConstA cs).map .agg
  | .iface t v => (ofConst v).map (.iface t)
  | .func (.func f) first cap => if first.size = 0 && cap.size = 0 then some (.func f []) else none
  | _ => none
def ofConstA : Array Value → Option (List DV)
  | ⟨l⟩ => ofConstL l
def ofConstL : List Value → Option (List DV)
  | [] => some []
  | v :: r => match v.oneCell', ofConst v, ofConstL r with
    | true, some a, some l => some (a :: l)
    | _, _, _ => none
end
section
variable (C : Cfg)
def Cfg.isAgg (t : TypeId) : Option Bool := match C.P.underlying t with
  | some (.struct _) | some (.array _ _) => some true
  | some _ => some false
  | none => none
def Cfg.size (t : TypeId) : Option Nat := (C.P.info? t).map (·.size)
def Cfg.nonzero (t : TypeId) : Bool := match C.P.info? t with
  | some i => i.size != 0
  | none => false
def Cfg.zero (t : TypeId) : Option DV := (C.P.info? t).bind fun i => i.zero.bind ofConst
def Cfg.field (t : TypeId) (f : Nat) : Option Field := match C.P.underlying t with
  | some (.struct fs) => fs[f]?
  | _ => none
def Cfg.part (t : TypeId) (cs : List DV) (off : Nat) : Option DV := match C.isAgg t, C.size t with
  | some true, some n => if off + n ≤ cs.length then some (.agg ((cs.drop off).take n)) else none
  | some false, some _ => cs[off]?
  | _, _ => none
def putCells (cs : List DV) (off : Nat) (new : List DV) : List DV := cs.take off ++ new ++ cs.drop (off + new.length)
def DV.ofCells (agg : Bool) (cs : List DV) : Option DV := if agg then some (.agg cs) else match cs with | [c] => some c | _ => none
def evalOp (e : Env) : Operand → Option DV
  | .tmp t => e t
  | .const v => ofConst v
  | .global g => C.globs g
  | .func f => some (.func f [])
def asInt : DV → Option Int
  | .int _ n => some n
  | _ => none
def ltBytes : List UInt8 → List UInt8 → Bool
  | _, [] => false
  | [], _ :: _ => true
  | a :: x, b :: y => a < b || (a == b && ltBytes x y)
def intBits (op : BinOp) (k : IntKind) (x y : Int) : Option DV :=
  let a := BitVec.ofInt k.bits x
  let b := BitVec.ofInt k.bits y
  let back (r : BitVec k.bits) : Option DV := some (.int k (k.wrap r.toNat))
  match op with
  | .and => back (a &&& b)
  | .or => back (a ||| b)
  | .xor => back (a ^^^ b)
  | .andNot => back (a &&& ~~~b)
  | _ => none
def intCmp (op : BinOp) (x y : Int) : Option DV := match op with
  | .eql => some (.bool (x == y))
  | .neq => some (.bool (x != y))
  | .lss => some (.bool (x < y))
  | .leq => some (.bool (x ≤ y))
  | .gtr => some (.bool (x > y))
  | .geq => some (.bool (x ≥ y))
  | _ => none
def strOp (op : BinOp) (x y : List UInt8) : Option DV := match op with
  | .add => if x.length + y.length ≤ 9223372036854775807 then some (.str (x ++ y)) else none
  | .eql => some (.bool (x == y))
  | .neq => some (.bool !(x == y))
  | .lss => some (.bool (ltBytes x y))
  | .leq => some (.bool (ltBytes x y || x == y))
  | .gtr => some (.bool !(ltBytes x y || x == y))
  | .geq => some (.bool !(ltBytes x y))
  | _ => none
def binD (op : BinOp) : DV → DV → Option DV
  | .int k a, .int k' b => match op with
    | .shl => if b < 0 then none else some (.int k (k.wrap (a * 2 ^ (min b.toNat k.bits))))
    | .shr => if b < 0 then none else some (.int k (a.fdiv (2 ^ (min b.toNat k.bits))))
    | op => if k ≠ k' then none else match op with
      | .add => some (.int k (k.wrap (a + b)))
      | .sub => some (.int k (k.wrap (a - b)))
      | .mul => some (.int k (k.wrap (a * b)))
      | .quo => if b = 0 then none else some (.int k (k.wrap (a.tdiv b)))
      | .rem => if b = 0 then none else some (.int k (a.tmod b))
      | .and | .or | .xor | .andNot => intBits op k a b
      | _ => intCmp op a b
  | .str a, .str b => strOp op a b
  | _, _ => none
def eqT (d : TypeDesc) (lit : Bool) : DV → DV → Option Bool
  | .bool a, .bool b => match d with | .bool => some (a == b) | _ => none
  | .nilp, .nilp => match d with | .pointer _ => some true | _ => none
  | .nilp, .ptr .. | .ptr .., .nilp | .nilp, .iptr .. | .iptr .., .nilp => none
  | .nili, .nili => match d with | .interface _ => if lit then some true else none | _ => none
  | .nili, .iface .. => match d with | .interface _ => some false | _ => none
  | .iface .., .nili => match d with | .interface _ => some false | _ => none
  | .iface t _, .iface u _ => match d with | .interface _ => if t = u then none else some false | _ => none
  | .nilf, .nilf => match d with | .func _ _ _ => some true | _ => none
  | .nilf, .func .. => match d with | .func _ _ _ => some false | _ => none
  | .func .., .nilf => match d with | .func _ _ _ => some false | _ => none
  | _, _ => none
def isNil : Operand → Bool
  | .const (.slice none 0 0) | .const (.pointer none) | .const .nilIface | .const .nilFunc => true
  | _ => false
def nilSlice : Operand → Bool
  | .const (.slice none 0 0) => true
  | _ => false
def DV.someSlice : DV → Bool
  | .list (_ :: _) _ => true
  | _ => false
def eqS (d : TypeDesc) (ox oy : Operand) (x y : DV) : Option Bool := match d with
  | .slice _ => if (nilSlice oy && x.someSlice) || (nilSlice ox && y.someSlice) then some false else none
  | d => eqT d (isNil ox || isNil oy) x y
def Cfg.binT (op : BinOp) (t : TypeId) (ox oy : Operand) (x y : DV) : Option DV := match binD op x y with
  | some v => some v
  | none => match C.P.underlying t with
    | none => none
    | some d => match op with
      | .eql => (eqS d ox oy x y).map .bool
      | .neq => (eqS d ox oy x y).map fun r => .bool !r
      | _ => none
def unD (op : UnOp) (x : DV) : Option DV := match op, x with
  | .neg, .int k n => some (.int k (k.wrap (0 - n)))
  | .xor, .int k n => intBits .xor k (if k.signed then -1 else k.max) n
  | .not, .bool b => some (.bool !b)
  | _, _ => none
abbrev Out := Option (DV × Eff)
def val (v : Option DV) : Out := v.map fun v => (v, [])
def fillParts (place : Nat → Option (Nat × Nat)) (cs : List DV) : List (Nat × DV) → Option (List DV)
  | [] => some cs
  | (i, v) :: r => match place i with
    | none => none
    | some (off, n) => if v.storable && v.cells.length = n && off + n ≤ cs.length then fillParts place (putCells cs off v.cells) r else none
def setElems (es : List DV) : List (Nat × DV) → List DV
  | [] => es
  | (i, v) :: r => setElems (es.set i v) r
def elemsOf (rd : Nat → Option Blk) : DV → Option (List DV)
  | .list es _ => some es
  | .ref id off len _ => match rowAt rd id with
    | some b => if b.leaf && off + len ≤ b.elems.length then some ((b.elems.drop off).take len) else none
    | none => none
  | _ => none
def capOf (b : Row) (off : Nat) (cap : Option Nat) : Option Nat := match cap with
  | some c => some c
  | none => b.ext.map (· - off)
def lenD : TypeDesc → DV → Option Nat
  | .slice _, .list es _ => some es.length
  | .string, .str s => some s.length
  | .slice _, .ref _ _ len _ => some len
  | _, _ => none
def liveRef (rd : Nat → Option Blk) : DV → Bool
  | .ref id _ _ _ => (rd id).isSome
  | _ => true
def roomy (n bytes : Nat) : Bool := n * bytes ≤ 140737488355328 && n ≤ 9223372036854775807
def headSz (n : Nat) : List DV → Bool
  | [] => true
  | y :: _ => y.cells.length == n
def appendD (slot : Nat) (rd : Nat → Option Blk) (elem : TypeId) (size bytes : Nat) (s x : DV) : Out := do
  let ys ← elemsOf rd x
  if !headSz size ys then none else
  match s with
  | .list es tight =>
    if ys.isEmpty then some (s, []) else
    if tight && headSz size es && roomy (es.length + ys.length) bytes then
      some (.ref slot 0 (es.length + ys.length) none, [(slot, some (.row { elems := es ++ ys, elem, sz := size, ext := none, leaf := true, fz := false }))])
    else none
  | .ref id off len cap => do
    let b ← rowAt rd id
    if ys.isEmpty then some (s, []) else
    if !b.leaf || b.fz || b.elem != elem || b.sz != size || !roomy (len + ys.length) bytes || b.elems.length < off + len then none else
    match capOf b off cap with
    | some c =>
      if len + ys.length ≤ c then
        some (.ref id off (len + ys.length) cap, [(id, some (.row { b with elems := b.elems.take (off + len) ++ ys ++ b.elems.drop (off + len + ys.length) }))])
      else some (.ref slot 0 (len + ys.length) none, [(slot, some (.row { elems := (b.elems.drop off).take len ++ ys, elem, sz := size, ext := none, leaf := true, fz := false }))])
    | none =>
      if off = 0 then
        some (.ref slot 0 (len + ys.length) none, [(id, none), (slot, some (.row { elems := b.elems.take len ++ ys, elem, sz := size, ext := none, leaf := true, fz := false }))])
      else none
  | _ => none
def appendZ (slot : Nat) (elem : TypeId) (size bytes : Nat) (z s x : DV) : Out := match s, x with
  | .list [] true, .int _ m => if decide (0 < m) && decide (m ≤ 9223372036854775807) && decide (m.toNat * bytes ≤ 140737488355328) && z.imm && z.cells.length == size then some (.ref slot 0 m.toNat none, [(slot, some (.row { elems := List.replicate m.toNat z, elem, sz := size, ext := none, leaf := true, fz := false }))]) else none
  | _, _ => none
def isIntD : Option TypeDesc → Bool
  | some (.int _) => true
  | _ => false
def copyD (rd : Nat → Option Blk) (size : Nat) (d x : DV) : Out := do
  let ys ← elemsOf rd x
  if !headSz size ys then none else
  match d with
  | .ref id off len _ => do
    let b ← rowAt rd id
    if !b.leaf || b.fz || b.sz != size || b.elems.length < off + len then none else
    let ys := ys.take len
    some (.int .i64 ys.length, [(id, some (.row { b with elems := b.elems.take off ++ ys ++ b.elems.drop (off + ys.length) }))])
  | .list [] _ => some (.int .i64 0, [])
  | _ => none
def boundMx (mx : Option Int) (cap : Nat) : Option (Option Nat) := match mx with
  | some m => if 0 ≤ m && m ≤ cap then some (some m.toNat) else none
  | none => some none
def boundHi (hi mx : Option Int) (m : Option Nat) (len cap : Nat) : Option Nat := match hi with
  | some h => if 0 ≤ h && h ≤ (m.getD cap) then some h.toNat else none
  | none => if mx.isSome then none else some len
def boundLo (lo : Option Int) (h : Nat) : Option Nat := match lo with
  | some l => if 0 ≤ l && l ≤ h then some l.toNat else none
  | none => some 0
def bounds (lo hi mx : Option Int) (len cap : Nat) : Option (Nat × Nat × Option Nat) := match boundMx mx cap with
  | none => none
  | some m => match boundHi hi mx m len cap with
    | none => none
    | some h => match boundLo lo h with
      | none => none
      | some l => some (l, h, m)
def optInt (ev : Operand → Option DV) : Option Operand → Option (Option Int)
  | none => some none
  | some o => match ev o with
    | some (.int _ n) => some (some n)
    | _ => none
def sliceS (x : DV) (lo hi mx : Option Int) : Option DV := match x, mx with
  | .str s, none => match bounds lo hi none s.length s.length with
    | some (l, h, _) => some (.str ((s.drop l).take (h - l)))
    | none => none
  | _, _ => none
def sliceD (rd : Nat → Option Blk) (n : Nat) (x : DV) (lo hi mx : Option Int) : Option DV := match x with
  | .list es t => if !headSz n es then none else match bounds lo hi mx es.length es.length with
    | some (l, h, none) => some (.list ((es.drop l).take (h - l)) (t && h == es.length))
    | some (l, h, some m) => some (.list ((es.drop l).take (h - l)) (h == m))
    | none => none
  | .ref id off len cap => match rowAt rd id with
    | none => none
    | some b => if b.sz != n || b.elems.length < off + len then none else
      match bounds lo hi mx len ((capOf b off cap).getD len) with
      | some (l, h, m) => if 0 < l && h == l then some (.list [] false) else if off + h ≤ b.elems.length then some (.ref id (off + l) (h - l) (match m with | some m => some (m - l) | none => cap.map (· - l))) else none
      | none => none
  | _ => none
def Cfg.loadD (rd : Nat → Option Blk) (t : TypeId) (a : DV) : Option DV := match a with
  | .ptr id ix off => match rowAt rd id with
    | some b => match b.elems[ix]? with
      | some e => C.part t e.cells off
      | none => none
    | none => none
  | .iptr e off => C.part t e.cells off
  | _ => none
def Cfg.storeD (rd : Nat → Option Blk) (t : TypeId) (a x : DV) : Out := match a with
  | .ptr id ix off => match rowAt rd id with
    | some b => match b.elems[ix]?, C.size t with
      | some e, some n =>
        if x.storable && x.cells.length = n && off + n ≤ e.cells.length && !b.fz && (!b.leaf || x.imm) then
          match e with
          | .agg cs => some (.undef, [(id, some (.row { b with elems := b.elems.set ix (.agg (putCells cs off x.cells)) }))])
          | _ => match x with
            | .agg _ => none
            | _ => if off = 0 then some (.undef, [(id, some (.row { b with elems := b.elems.set ix x }))]) else none
        else none
      | _, _ => none
    | none => none
  | _ => none
def Cfg.indexAddrD (rd : Nat → Option Blk) (t : TypeId) (x : DV) (i : Int) : Option DV :=
  match C.P.underlying t with
  | some (.slice elem) => match x with
    | .list es _ => if 0 ≤ i then match es[i.toNat]? with
        | some e => if C.size elem = some e.cells.length then some (.iptr e 0) else none
        | none => none
      else none
    | .ref id off len _ => if 0 ≤ i && i < len then match rowAt rd id with
        | some b => if C.size elem = some b.sz then some (.ptr id (off + i.toNat) 0) else none
        | none => none
      else none
    | _ => none
  | some (.array n elem) => if 0 ≤ i && i < n then match C.size elem, x with
      | some m, .ptr id ix off => if (rd id).isSome then some (.ptr id ix (off + i.toNat * m)) else none
      | some m, .iptr e off => some (.iptr e (off + i.toNat * m))
      | _, _ => none
    else none
  | _ => none
def Cfg.indexD (t : TypeId) (x : DV) (i : Int) : Option DV := match C.P.underlying t, x with
  | some (.array n elem), .agg cs => if 0 ≤ i && i < n then (C.size elem).bind fun m => C.part elem cs (i.toNat * m) else none
  | some .string, .str s => if 0 ≤ i then (s[i.toNat]?).map fun b => .int .u8 b.toNat else none
  | _, _ => none
def bytesOf : List DV → Option (List UInt8)
  | [] => some []
  | .int .u8 n :: r => (bytesOf r).map (UInt8.ofNat n.toNat :: ·)
  | _ => none
def Cfg.convD (rd : Nat → Option Blk) (src dst : TypeId) (x : DV) : Option DV := match C.P.underlying src, C.P.underlying dst, x with
  | some _, some (.int k), .int _ n => some (.int k (k.wrap n))
  | some _, some .string, .str s => some (.str s)
  | some (.slice e), some .string, x => match C.P.underlying e, elemsOf rd x with
    | some (.int .u8), some es => (bytesOf es).map .str
    | _, _ => none
  | some _, some (.slice e), .str s => match C.P.underlying e with
    | some (.int .u8) => some (.list (s.map fun b => .int .u8 b.toNat) false)
    | _ => none
  | _, _, _ => none
def minD (le : Bool) : DV → DV → Option DV
  | .int k x, .int k' y => if k = k' then some (.int k (if (if le then y < x else y > x) then y else x)) else none
  | _, _ => none
def foldD (f : DV → DV → Option DV) : DV → List DV → Option DV
  | x, [] => some x
  | x, y :: r => match f x y with
    | some z => foldD f z r
    | none => none
def Cfg.asserts (x : DV) (asserted : TypeId) (ok : Bool) : Option DV := match C.P.underlying asserted, x with
  | some (.interface _), _ => none
  | some _, .iface t v => if t = asserted then some (if ok then .tuple [v, .bool true] else v) else
      if ok then (C.zero asserted).map fun z => .tuple [z, .bool false] else none
  | some _, .nili => if ok then (C.zero asserted).map fun z => .tuple [z, .bool false] else none
  | _, _ => none
def mapO {α β : Type} (f : α → Option β) : List α → Option (List β)
  | [] => some []
  | a :: r => match f a, mapO f r with
    | some b, some l => some (b :: l)
    | _, _ => none
def replic (n : Nat) (v : DV) : List DV := List.replicate n v
def runeOf (b0 : Nat) (c1 c2 c3 : Bool) (l1 l2 l3 : Nat) : Nat × Nat :=
  if b0 < 0x80 then (b0, 1)
  else if b0 / 32 == 6 && c1 then
    if (b0 % 32) * 64 + l1 ≥ 0x80 then ((b0 % 32) * 64 + l1, 2) else (Utf8.runeError, 1)
  else if b0 / 16 == 14 && c1 && c2 then
    if (b0 % 16) * 4096 + l1 * 64 + l2 ≥ 0x800 && Utf8.valid ((b0 % 16) * 4096 + l1 * 64 + l2 : Nat) then ((b0 % 16) * 4096 + l1 * 64 + l2, 3) else (Utf8.runeError, 1)
  else if b0 / 8 == 30 && c1 && c2 && c3 then
    if (b0 % 8) * 262144 + l1 * 4096 + l2 * 64 + l3 ≥ 0x10000 && Utf8.valid ((b0 % 8) * 262144 + l1 * 4096 + l2 * 64 + l3 : Nat) then ((b0 % 8) * 262144 + l1 * 4096 + l2 * 64 + l3, 4) else (Utf8.runeError, 1)
  else (Utf8.runeError, 1)
def contB : Option UInt8 → Bool
  | some c => c.toNat / 64 == 2
  | none => false
def lowB : Option UInt8 → Nat
  | some c => c.toNat % 64
  | none => 0
def decodeL : List UInt8 → Option (Nat × Nat)
  | [] => none
  | b :: r => some (runeOf b.toNat (contB r[0]?) (contB r[1]?) (contB r[2]?) (lowB r[0]?) (lowB r[1]?) (lowB r[2]?))
def Cfg.opD (slot : Nat) (ev : Operand → Option DV) (rd : Nat → Option Blk) (o : Oper) : Out := match o.op with
  | .move x | .assign x => val (ev x)
  | .pick c a b => match ev c with
    | some (.bool t) => val (if t then ev a else ev b)
    | _ => none
  | .alloc elem => match C.zero elem with
    | some z => some (.ptr slot 0 0, [(slot, some (.row { elems := [z], elem, sz := z.cells.length, ext := some 1, leaf := false, fz := false }))])
    | none => none
  | .box elem x => match ev x with
    | some v => if !v.storable then none else some (.ptr slot 0 0, [(slot, some (.row { elems := [v], elem, sz := v.cells.length, ext := some 1, leaf := false, fz := false }))])
    | none => none
  | .build t parts => match C.zero t, mapO (fun p : Nat × Operand => (ev p.2).map fun v => (p.1, v)) parts.toList, C.P.underlying t with
    | some z, some ps, some (.struct fs) => match mapO (fun f : Field => (C.size f.type).map fun n => (f.offset, n)) fs.toList with
      | some pl => val ((fillParts (fun i => pl[i]?) z.cells ps).map .agg)
      | none => none
    | some z, some ps, some (.array _ elem) => match C.size elem with
      | some n => val ((fillParts (fun i => some (i * n, n)) z.cells ps).map .agg)
      | none => none
    | _, _, _ => none
  | .buildSlice t len parts => match C.P.underlying t with
    | some (.slice elem) => match C.zero elem, mapO (fun p : Nat × Operand => (ev p.2).map fun v => (p.1, v)) parts.toList, C.size elem with
      | some z, some ps, some n =>
        if 0 < n && len * n ≤ 16777216 && ps.all (fun p => p.1 < len && p.2.storable && p.2.imm && p.2.cells.length == n) && z.imm && z.cells.length == n then
          some (.ref slot 0 len none, [(slot, some (.row { elems := setElems (replic len z) ps, elem, sz := n, ext := some len, leaf := true, fz := false }))])
        else none
      | _, _, _ => none
    | _ => none
  | .load t a => match ev a with
    | some a => val (C.loadD rd t a)
    | none => none
  | .store t a x => match ev a, ev x with
    | some a, some x => C.storeD rd t a x
    | _, _ => none
  | .nilCheck x => match ev x with
    | some (.ptr i j k) => if (rd i).isSome then some (.ptr i j k, []) else none
    | some (.iptr a b) => some (.iptr a b, [])
    | some (.func f c) => some (.func f c, [])
    | some (.iface t v) => some (.iface t v, [])
    | _ => none
  | .binOp op t ox oy _ => match ev ox, ev oy with
    | some x, some y => val (C.binT op t ox oy x y)
    | _, _ => none
  | .unOp op _ x => match ev x with
    | some x => val (unD op x)
    | none => none
  | .convert src dst x => match ev x with
    | some x => val (C.convD rd src dst x)
    | none => none
  | .makeInterface t x => match ev x, C.P.underlying t with
    | some _, some (.interface _) => none
    | some x, some _ => some (.iface t x, [])
    | _, _ => none
  | .makeFunc (.func f) first cap => match mapO ev first.toList, mapO ev cap.toList with
    | some [], some c => some (.func f c, [])
    | _, _ => none
  | .makeSlice t l c => match C.P.underlying t, ev l, ev c with
    | some (.slice elem), some (.int .i64 l), some (.int .i64 c) => match C.zero elem, C.size elem, C.P.info? elem with
      | some z, some n, some i =>
        if 0 < n && 0 ≤ l && l ≤ c && c ≤ 9223372036854775807 && c.toNat * i.bytes ≤ 140737488355328 && z.imm && z.cells.length == n then
          some (.ref slot 0 l.toNat none, [(slot, some (.row { elems := replic c.toNat z, elem, sz := n, ext := some c.toNat, leaf := true, fz := false }))])
        else none
      | _, _, _ => none
    | _, _, _ => none
  | .slice t x lo hi mx => match ev x, optInt ev lo, optInt ev hi, optInt ev mx, C.P.underlying t with
    | some x, some lo, some hi, some mx, some (.slice e) => match C.size e with
      | some n => if 0 < n then val (sliceD rd n x lo hi mx) else none
      | none => none
    | some x, some lo, some hi, some mx, some .string => val (sliceS x lo hi mx)
    | _, _, _, _, _ => none
  | .fieldAddr s x f => match ev x, C.field s f with
    | some (.ptr id ix off), some f => if C.nonzero f.type && (rd id).isSome then some (.ptr id ix (off + f.offset), []) else none
    | some (.iptr e off), some f => if C.nonzero f.type then some (.iptr e (off + f.offset), []) else none
    | _, _ => none
  | .field t x f => match ev x, C.field t f with
    | some (.agg cs), some f => val (C.part f.type cs f.offset)
    | _, _ => none
  | .indexAddr t x i => match ev x, ev i with
    | some x, some (.int _ i) => val (C.indexAddrD rd t x i)
    | _, _ => none
  | .index t x i => match ev x, ev i with
    | some x, some (.int _ i) => val (C.indexD t x i)
    | _, _ => none
  | .range t x => match ev x, C.P.underlying t with
    | some (.str s), some .string => some (.ptr slot 0 0, [(slot, some (.siter s 0))])
    | _, _ => none
  | .next x true => match ev x with
    | some (.ptr id 0 0) => match rd id with
      | some (.siter s pos) => match decodeL s with
        | some (c, w) => some (.tuple [.bool true, .int .i64 pos, .int .i32 c], [(id, some (.siter (s.drop w) (pos + w)))])
        | none => some (.tuple [.bool false], [])
      | _ => none
    | _ => none
  | .typeAssert x _ asserted ok => match ev x with
    | some x => val (C.asserts x asserted ok)
    | none => none
  | .extract t ix => match ev t with
    | some (.tuple vs) => val vs[ix]?
    | _ => none
  | .call c => match c.callee with
    | .builtin .len => match (c.args[0]?).bind ev, (c.argTypes[0]?).bind C.P.underlying with
      | some x, some d => if liveRef rd x then val ((lenD d x).map fun n : Nat => DV.int .i64 (n : Int)) else none
      | _, _ => none
    | .builtin .cap => match (c.args[0]?).bind ev, (c.argTypes[0]?).bind C.P.underlying with
      | some (.ref id off len cap), some (.slice _) => match rowAt rd id with
        | some b => if 0 < b.sz then val ((capOf b off cap).map fun n : Nat => DV.int .i64 (n : Int)) else none
        | none => none
      | some (.list es true), some (.slice _) => some (.int .i64 es.length, [])
      | _, _ => none
    | .builtin .append => match (c.args[0]?).bind ev, (c.args[1]?).bind ev, (c.argTypes[0]?).bind C.P.underlying with
      | some s, some x, some (.slice elem) => match C.size elem, C.P.info? elem with
        | some n, some i => if 0 < n && c.argTypes[1]? == c.argTypes[0]? && c.args.size == 2 && c.argTypes.size == 2 && (i.zero.map (·.cells.size)) == some n then appendD slot rd elem n i.bytes s x else if 0 < n && c.args.size == 2 && c.argTypes.size == 2 && isIntD ((c.argTypes[1]?).bind C.P.underlying) then (C.zero elem).bind fun z => appendZ slot elem n i.bytes z s x else none
        | _, _ => none
      | _, _, _ => none
    | .builtin .copy => match (c.args[0]?).bind ev, (c.args[1]?).bind ev, (c.argTypes[0]?).bind C.P.underlying with
      | some d, some x, some (.slice elem) => match C.size elem with
        | some n => if 0 < n && c.args.size == 2 then copyD rd n d x else none
        | none => none
      | _, _, _ => none
    | .builtin .min => match mapO ev c.args.toList with
      | some (x :: r) => val (foldD (minD true) x r)
      | _ => none
    | .builtin .max => match mapO ev c.args.toList with
      | some (x :: r) => val (foldD (minD false) x r)
      | _ => none
    | _ => none
  | _ => none
def Cfg.target (ev : Operand → Option DV) (c : Call) : Option (FuncId × List DV) := match c.callee with
  | .value f => match ev f, mapO ev c.args.toList with
    | some (.func g cap), some args => some (g, args ++ cap)
    | _, _ => none
  | .invoke r name => match ev r, mapO ev c.args.toList with
    | some (.iface t v), some args => match (C.P.info? t).bind fun i => i.methods.find? (·.name == name) with
      | some m => match m.path.isEmpty, m.func, C.P.underlying t with
        | true, some (g, true), some (.pointer _) => some (g, v :: args)
        | true, some (g, false), some (.pointer _) => none
        | true, some (g, false), some _ => some (g, v :: args)
        | _, _, _ => none
      | none => none
    | _, _ => none
  | _ => none
def Blk.ren (ρ : Nat → Option Nat) : Blk → Blk
  | .row b => .row (if b.leaf then b else { b with elems := DV.rens ρ b.elems })
  | b => b
def Blk.ids : Blk → List Nat
  | .row b => if b.leaf then [] else DV.idss b.elems
  | _ => []
def collect (h : Nat → Option Blk) : Nat → List Nat → List Nat → Option (List Nat)
  | _, [], acc => some acc
  | 0, _ :: _, _ => none
  | n + 1, i :: r, acc => if acc.contains i then collect h n r acc else match h i with
    | some b => collect h n (b.ids ++ r) (acc ++ [i])
    | none => collect h n r acc
def placeFrom : List Nat → Nat → Nat → Option Nat
  | [], _, _ => none
  | j :: r, k, i => if i = j then some k else placeFrom r (k + 1) i
def place (l : List Nat) (i : Nat) : Option Nat := placeFrom l 0 i
def packIds (ids : List Nat) (h : Nat → Option Blk) : List (Option Blk) := ids.map fun i => (h i).map (Blk.ren (place ids))
def backTo (ids : List Nat) (slot n : Nat) (i : Nat) : Option Nat := match ids[i]? with
  | some j => some j
  | none => if i < n then some (slot + (i - ids.length)) else none
def backEff (ρ : Nat → Option Nat) : Nat → List (Option Blk) → Eff
  | _, [] => []
  | i, b :: r => match ρ i with
    | some j => (j, b.map (Blk.ren ρ)) :: backEff ρ (i + 1) r
    | none => backEff ρ (i + 1) r
def wide : Nat := 8
def lentEff (rd : Nat → Option Blk) : List Nat → Eff
  | [] => []
  | i :: r => match rowAt rd i with
    | some b => (i, some (.row { b with fz := true, leaf := true })) :: lentEff rd r
    | none => lentEff rd r
def Cfg.askD (rec : Req → Option Res) (g : FuncId) (args : List DV) : Option Res := match C.ext g with
  | some x => (x args).map fun (r : DV × List (Option Blk)) => Res.done r.1 r.2
  | none => rec (.call g args [])
def Cfg.callD (rec : Req → Option Res) (slot : Nat) (rd : Nat → Option Blk) (g : FuncId) (args : List DV) : Out :=
  match C.mode g with
  | some .shared => match collect rd 200 (DV.idss args) [] with
    | some ids => match rec (.call g (DV.rens (place ids) args) (packIds ids rd)) with
      | some (.done v hs) =>
        if hs.length ≤ ids.length + wide then
          let ρ := backTo ids slot hs.length
          some (v.ren ρ, backEff ρ 0 hs)
        else none
      | _ => none
    | none => none
  | some _ => match DV.freezes rd args with
    | none => none
    | some args' => match C.askD rec g args' with
      | some (.done v hs) =>
        if hs.length ≤ wide then
          let ρ := backTo [] slot hs.length
          if v.scalar then some (v, []) else some (v.ren ρ, lentEff rd (DV.idss args) ++ backEff ρ 0 hs)
        else none
      | _ => none
  | none => none
def Cfg.stepD (rec : Req → Option Res) (slot : Nat) (ev : Operand → Option DV) (rd : Nat → Option Blk) (o : Oper) : Out := match o.op with
  | .call c => match c.callee with
    | .builtin _ => C.opD slot ev rd o
    | _ => match C.target ev c with
      | some (g, args) => C.callD rec slot rd g args
      | none => none
  | _ => C.opD slot ev rd o
def guardD (ops : Array Oper) (e : Env) (o : Oper) : Option Bool := match o.guard with
  | none => some true
  | some (j, want) => match (ops[j]?).bind (·.dst) with
    | some d => match e d with
      | some (.bool b) => some (b == want)
      | some .undef => some false
      | _ => none
    | none => none
def Cfg.runOp (rec : Req → Option Res) (ops : Array Oper) (i : Nat) (s : St) : Option St := match ops[i]? with
  | none => none
  | some o => match guardD ops s.env o with
    | none => none
    | some false => some { s with env := s.env.set o.dst .undef }
    | some true => match C.stepD rec (s.top + i * wide) (evalOp C s.env) s.heap o with
      | none => none
      | some (v, e) => some { s with env := s.env.set o.dst v, heap := s.heap.put e }
def Cfg.runOps (rec : Req → Option Res) (ops : Array Oper) : List Nat → St → Option St
  | [], s => some s
  | i :: r, s => match C.runOp rec ops i s with
    | none => none
    | some s' => Cfg.runOps rec ops r s'
def tmpsOf (xs : List Operand) : List Nat := xs.filterMap fun | .tmp t => some t | _ => none
def looks (ops : Array Oper) (o : Oper) : List Nat := tmpsOf o.op.operands.toList ++ (match o.guard with | some (j, _) => ((ops[j]?).bind (·.dst)).toList | none => [])
def heapy (o : Oper) : Bool := match o.op with
  | .move _ | .assign _ | .pick .. | .alloc _ | .box .. | .build .. | .buildSlice .. | .binOp .. | .unOp .. | .makeInterface .. | .makeFunc .. | .makeSlice .. | .field .. | .index .. | .typeAssert .. | .extract .. => false
  | _ => true
def anc (ops : Array Oper) (i : Nat) : Nat := (Region.before ops).getD i 0
def comparable (ops : Array Oper) (i j : Nat) : Bool := i == j || (anc ops i).testBit j || (anc ops j).testBit i
def heapyAt (ops : Array Oper) (i : Nat) : Bool := (ops[i]?).any heapy
def dstIs (x : Oper) (t : Nat) : Bool := match x.dst with
  | some d => Nat.beq d t
  | none => false
def footT (ops : Array Oper) (j : Nat) : Option Nat := match ops[j]? with
  | some o => match o.op with
    | .load _ (.tmp t) | .store _ (.tmp t) _ => if ops.toList.any (fun x => dstIs x t) then none else some t
    | _ => none
  | none => none
def foot (ops : Array Oper) (E : Env) (j : Nat) : Option Nat := match footT ops j with
  | some t => match E t with
    | some (.ptr id _ _) => some id
    | _ => none
  | none => none
def seesOld (ops : Array Oper) (E : Env) (j id : Nat) : Bool := match foot ops E j with
  | some k => Nat.beq k id
  | none => true
def maySee (ops : Array Oper) (E : Env) (top j id : Nat) : Bool := heapyAt ops j && (if id < top then seesOld ops E j id else (id - top) / wide == j || (anc ops j).testBit ((id - top) / wide))
def soleUser (ops : Array Oper) (i k : Nat) : Bool := (List.range ops.size).all fun j => comparable ops i j || !heapyAt ops j || !(anc ops j).testBit k
def mayWrite (ops : Array Oper) (E : Env) (top j id : Nat) : Bool := if id < top then heapyAt ops j && seesOld ops E j id && ((List.range ops.size).all fun i => comparable ops i j || !heapyAt ops i || !seesOld ops E i id) else (id - top) / wide == j || (heapyAt ops j && (anc ops j).testBit ((id - top) / wide) && soleUser ops j ((id - top) / wide))
def Cfg.runOpD (rec : Req → Option Res) (ops : Array Oper) (i : Nat) (s : St) : Option St := match ops[i]? with
  | none => none
  | some o =>
    let env : Env := fun t => if (looks ops o).contains t then s.env t else none
    match guardD ops env o with
    | none => none
    | some false => some { s with env := s.env.set o.dst .undef }
    | some true => match C.stepD rec (s.top + i * wide) (evalOp C env) (fun id => if maySee ops s.env s.top i id then s.heap id else none) o with
      | none => none
      | some (v, e) => if e.all fun p => mayWrite ops s.env s.top i p.1 then some { s with env := s.env.set o.dst v, heap := s.heap.put e } else none
def Cfg.runOpsD (rec : Req → Option Res) (ops : Array Oper) : List Nat → St → Option St
  | [], s => some s
  | i :: r, s => match C.runOpD rec ops i s with
    | none => none
    | some s' => Cfg.runOpsD rec ops r s'
def Cfg.runRegion (rec : Req → Option Res) (ops : Array Oper) (draw : Bool) (s : St) : Option St :=
  (if draw then C.runOpsD rec ops (List.range ops.size) s else C.runOps rec ops (List.range ops.size) s).map fun s' => { s' with top := s.top + ops.size * wide }
structure Live where
  normal : List Nat
  exits : List (Nat × List Nat)
  ret : List Nat
def union (a b : List Nat) : List Nat := a.foldr (fun x l => if l.contains x then l else x :: l) b
def liveOp (ops : Array Oper) (o : Oper) (l : List Nat) : List Nat :=
  let l := match o.dst with | some d => l.filter (· != d) | none => l
  let l := match o.guard with | some (j, _) => union (((ops[j]?).bind (·.dst)).toList) l | none => l
  union (tmpsOf o.op.operands.toList) l
def jumps : Code → List (Option Nat)
  | .seq a b => jumps a ++ jumps b
  | .cond _ a b => jumps a ++ jumps b
  | .block _ c => jumps c
  | .loop c => jumps c
  | .scope c => jumps c
  | .exit id => [some id]
  | .ret => [none]
  | _ => []
def Live.jump (l : Live) : Option Nat → List Nat
  | none => l.ret
  | some id => match l.exits.find? (·.1 == id) with | some p => p.2 | none => []
def Live.inR (l : Live) : Live := { normal := [], exits := l.exits.map fun p => (p.1, []), ret := [] }
def eachKeep (ps : Array Nat) (bd : Code) (l : Live) (first : List Nat) : List Nat := union (first.filter fun t => !ps.contains t) ((jumps bd).foldr (fun j r => union (l.jump j) r) l.normal)
def liveIn : Code → Live → List Nat
  | .skip, l => l.normal
  | .region _ ops _, l => ops.toList.foldr (liveOp ops) l.normal
  | .seq a b, l => liveIn a { l with normal := liveIn b l }
  | .cond c a b, l => union (tmpsOf [c]) (union (liveIn a l) (liveIn b l))
  | .block id c, l => liveIn c { l with exits := (id, l.normal) :: l.exits }
  | .loop c, l => liveIn c { l with normal := [] }
  | .exit id, l => match l.exits.find? (·.1 == id) with | some p => p.2 | none => []
  | .ret, l => l.ret
  | .scope c, l => liveIn c l
  | .label _, l => l.normal
  | .rangeFunc g ps as bd, l => union (tmpsOf [g]) (eachKeep ps bd l (liveIn as { l.inR with normal := liveIn bd l.inR }))
  | _, _ => []
def keepsR (ps : Array Nat) (as bd : Code) (l : Live) : List Nat := eachKeep ps bd l (liveIn as { l.inR with normal := liveIn bd l.inR })
def Ex.live (l : Live) : Ex → List Nat
  | .normal => l.normal
  | .exit id => match l.exits.find? (·.1 == id) with | some p => p.2 | none => []
  | .ret => l.ret
def idsO : List (Option DV) → List Nat
  | [] => []
  | some v :: r => v.ids ++ idsO r
  | none :: r => idsO r
def renO (ρ : Nat → Option Nat) : List (Option DV) → List (Option DV)
  | [] => []
  | v :: r => v.map (DV.ren ρ) :: renO ρ r
def idsBelow (h : Heap) (base : Nat) : List Nat := (List.range base).flatMap fun i => ((h i).map Blk.ids).getD []
def pack (base : Nat) (vals : List (Option DV)) (h : Heap) : Option (List (Option DV) × List (Option Blk)) :=
  match collect h 200 (idsBelow h base ++ idsO vals) (List.range base) with
  | some ids => some (renO (place ids) vals, packIds ids h)
  | none => none
def envOf : List Nat → List (Option DV) → Env
  | t :: ts, v :: vs => fun u => if u = t then v else envOf ts vs u
  | _, _ => fun _ => none
def heapOf (hs : List (Option Blk)) : Heap := fun i => (hs[i]?).bind id
def Cfg.seqOf (e : Env) (g : Operand) : Option (List (List DV)) := match evalOp C e g with
  | some (.func gf cap) => match C.seqs gf with
    | some sq => if DV.imms cap then sq cap else none
    | none => none
  | _ => none
def setParams (e : Env) (ps : Array Nat) (x : List DV) : Env := (ps.toList.zip x).foldl (fun e p => e.set (some p.1) p.2) e
def Cfg.runC (rec : Req → Option Res) (f : FuncId) : List Bool → Live → Code → St → Option (Ex × St)
  | _, _, .skip, s => some (.normal, s)
  | _, _, .region _ ops d, s => (C.runRegion rec ops d s).map fun s => (.normal, s)
  | p, l, .seq a b, s => match Cfg.runC rec f (false :: p) { l with normal := liveIn b l } a s with
    | some (.normal, s') => Cfg.runC rec f (true :: p) l b s'
    | r => r
  | p, l, .cond c a b, s => match evalOp C s.env c with
    | some (.bool t) => if t then Cfg.runC rec f (false :: p) l a s else Cfg.runC rec f (true :: p) l b s
    | _ => none
  | p, l, .block id c, s => match Cfg.runC rec f (false :: p) { l with exits := (id, l.normal) :: l.exits } c s with
    | some (.exit j, s') => if j = id then some (.normal, s') else some (.exit j, s')
    | r => r
  | p, l, .loop c, s =>
    let keep := liveIn (.loop c) l
    match pack s.base (keep.map s.env) s.heap with
    | none => none
    | some (vals, hs) => match rec (.loop f p s.base vals hs) with
      | some (.left e vals' hs') => some (e, { env := envOf (e.live l) vals', heap := heapOf hs', top := hs'.length, base := s.base })
      | _ => none
  | p, l, .rangeFunc g ps as bd, s => match C.seqOf s.env g, pack s.base ((keepsR ps as bd l).map s.env) s.heap with
    | some xs, some (vals, hs) => match rec (.each f p s.base xs vals hs) with
      | some (.left e vals' hs') => some (e, { env := envOf (e.live l) vals', heap := heapOf hs', top := hs'.length, base := s.base })
      | _ => none
    | _, _ => none
  | p, l, .scope c, s => Cfg.runC rec f (false :: p) l c s
  | _, _, .label _, s => some (.normal, s)
  | _, _, .exit id, s => some (.exit id, s)
  | _, _, .ret, s => some (.ret, s)
  | _, _, _, _ => none
def codeAt (c : Code) (l : Live) : List Bool → Option (Code × Live)
  | [] => some (c, l)
  | b :: p => match codeAt c l p with
    | some (.seq x y, l) => if b then some (y, l) else some (x, { l with normal := liveIn y l })
    | some (.cond _ x y, l) => some (if b then y else x, l)
    | some (.block id x, l) => some (x, { l with exits := (id, l.normal) :: l.exits })
    | some (.loop x, l) => some (x, { l with normal := liveIn (.loop x) l })
    | some (.scope x, l) => some (x, l)
    | some (.rangeFunc _ _ as bd, l) => if b then some (bd, l.inR) else some (as, { l.inR with normal := liveIn bd l.inR })
    | _ => none
def resultTmps (fn : Func) : List Nat := fn.results.toList.map fun | .tmp t => t | .cell a _ => a
def Func.live (fn : Func) : Live := { normal := resultTmps fn, exits := [], ret := resultTmps fn }
def Cfg.resD (s : St) : ResultVar → Option DV
  | .tmp t => s.env t
  | .cell a t => match s.env a with
    | some p => C.loadD s.heap t p
    | none => none
def Cfg.results (fn : Func) (s : St) : Option DV :=
  match mapO (C.resD s) fn.results.toList with
  | some [v] => some v
  | some vs => some (.tuple vs)
  | none => none
def Cfg.handBack (f : FuncId) (m : Nat) (v : DV) (h : Heap) : Option Res := match C.mode f with
  | some .pure => if m = 0 then (v.freeze h).map fun v => .done v [] else none
  | some _ => match collect h 200 (idsBelow h m ++ v.ids) (List.range m) with
    | some ids => some (.done (v.ren (place ids)) (packIds ids h))
    | none => none
  | none => none
def Cfg.callBody (rec : Req → Option Res) (f : FuncId) (args : List DV) (hs : List (Option Blk)) (fn : Func) (c : Code) : Option Res :=
  match C.runC rec f [] (Func.live fn) c { env := envOf (List.range args.length) (args.map some), heap := heapOf hs, top := hs.length, base := hs.length } with
  | some (.normal, s) | some (.ret, s) => match C.results fn s with
    | none => none
    | some v => C.handBack f hs.length v s.heap
  | _ => none
def Cfg.loopBody (rec : Req → Option Res) (f : FuncId) (p : List Bool) (m : Nat) (vals : List (Option DV)) (hs : List (Option Blk)) (b : Code) (l : Live) : Option Res :=
  match C.runC rec f (false :: p) { l with normal := liveIn (.loop b) l } b { env := envOf (liveIn (.loop b) l) vals, heap := heapOf hs, top := hs.length, base := m } with
  | none => none
  | some (.normal, s) => match pack m ((liveIn (.loop b) l).map s.env) s.heap with
    | some (vals, hs) => rec (.loop f p m vals hs)
    | none => none
  | some (e, s) => match pack m ((e.live l).map s.env) s.heap with
    | some (vals, hs) => some (.left e vals hs)
    | none => none
def Cfg.eachBody (rec : Req → Option Res) (f : FuncId) (p : List Bool) (m : Nat) (xs : List (List DV)) (vals : List (Option DV)) (hs : List (Option Blk)) (ps : Array Nat) (as bd : Code) (l : Live) : Option Res := match xs with
  | [] => match pack m (l.normal.map (envOf (keepsR ps as bd l) vals)) (heapOf hs) with
    | some (vals', hs') => some (.left .normal vals' hs')
    | none => none
  | x :: r => if x.length = ps.size ∧ DV.imms x = true then
      match C.runC rec f (false :: p) { l.inR with normal := liveIn bd l.inR } as { env := setParams (envOf (keepsR ps as bd l) vals) ps x, heap := heapOf hs, top := hs.length, base := hs.length } with
      | some (.normal, s1) => match C.runC rec f (true :: p) l.inR bd s1 with
        | none => none
        | some (.normal, s) => match pack m ((keepsR ps as bd l).map (envOf (keepsR ps as bd l) vals)) s.heap with
          | some (vals', hs') => rec (.each f p m r vals' hs')
          | none => none
        | some (e, s) => match pack m ((e.live l).map (envOf (keepsR ps as bd l) vals)) s.heap with
          | some (vals', hs') => some (.left e vals' hs')
          | none => none
      | _ => none
    else none
def Cfg.step (rec : Req → Option Res) : Req → Option Res
  | .call f args hs => match C.P.funcs[f]? with
    | none => none
    | some fn => match fn.body with
      | none => none
      | some c => C.callBody rec f args hs fn c
  | .loop f p m vals hs => match C.P.funcs[f]? with
    | none => none
    | some fn => match fn.body with
      | none => none
      | some c => match codeAt c (Func.live fn) p with
        | some (.loop b, l) => C.loopBody rec f p m vals hs b l
        | _ => none
  | .each f p m xs vals hs => match C.P.funcs[f]? with
    | none => none
    | some fn => match fn.body with
      | none => none
      | some c => match codeAt c (Func.live fn) p with
        | some (.rangeFunc _ ps as bd, l) => C.eachBody rec f p m xs vals hs ps as bd l
        | _ => none
def Cfg.runN : Nat → Req → Option Res
  | 0, _ => none
  | n + 1, r => C.step (Cfg.runN n) r
end
end Go.PM
end
section
namespace Go.PM
set_option linter.unusedVariables false
def Le {α : Type} (a b : Option α) : Prop := ∀ x, a = some x → b = some x
theorem Le.refl {α : Type} (a : Option α) : Le a a := fun _ h => h
section
variable (C : Cfg) {rec rec' : Req → Option Res}
theorem askD_mono (h : ∀ r, Le (rec r) (rec' r)) (g : FuncId) (args : List DV) : Le (C.askD rec g args) (C.askD rec' g args) := by
  intro x hx
  unfold Cfg.askD at hx ⊢
  split
  · rename_i y hy
    rw [hy] at hx
    exact hx
  · rename_i hy
    rw [hy] at hx
    exact h _ _ hx
theorem callD_mono (h : ∀ r, Le (rec r) (rec' r)) (slot : Nat) (rd : Nat → Option Blk) (g : FuncId) (args : List DV) :
    Le (C.callD rec slot rd g args) (C.callD rec' slot rd g args) := by
  intro x hx
  unfold Cfg.callD at hx ⊢
  split at hx
  · split at hx
    · split at hx
      · rename_i v hs hr
        rw [h _ _ hr]
        exact hx
      · exact absurd hx (by simp)
    · exact absurd hx (by simp)
  · split at hx
    · exact absurd hx (by simp)
    · split at hx
      · rename_i v hs hr
        simp only [askD_mono C h _ _ _ hr]
        exact hx
      · exact absurd hx (by simp)
  · exact absurd hx (by simp)
theorem stepD_mono (h : ∀ r, Le (rec r) (rec' r)) (slot : Nat) (ev : Operand → Option DV) (rd : Nat → Option Blk) (o : Oper) :
    Le (C.stepD rec slot ev rd o) (C.stepD rec' slot ev rd o) := by
  intro x hx
  unfold Cfg.stepD at hx ⊢
  split at hx
  · split at hx
    · exact hx
    · split at hx
      · exact callD_mono C h _ _ _ _ _ hx
      · exact absurd hx (by simp)
  · exact hx
theorem runOp_mono (h : ∀ r, Le (rec r) (rec' r)) (ops : Array Oper) (i : Nat) (s : St) : Le (C.runOp rec ops i s) (C.runOp rec' ops i s) := by
  intro x hx
  unfold Cfg.runOp at hx ⊢
  split at hx
  · exact absurd hx (by simp)
  · split at hx
    · exact absurd hx (by simp)
    · exact hx
    · split at hx
      · exact absurd hx (by simp)
      · rename_i hs
        simp only [stepD_mono C h _ _ _ _ _ hs]
        exact hx
theorem runOpD_mono (h : ∀ r, Le (rec r) (rec' r)) (ops : Array Oper) (i : Nat) (s : St) : Le (C.runOpD rec ops i s) (C.runOpD rec' ops i s) := by
  intro x hx
  unfold Cfg.runOpD at hx ⊢
  split at hx
  · exact absurd hx (by simp)
  · dsimp only at hx ⊢
    split at hx
    · exact absurd hx (by simp)
    · exact hx
    · split at hx
      · exact absurd hx (by simp)
      · rename_i hs
        simp only [stepD_mono C h _ _ _ _ _ hs]
        exact hx
theorem runOps_mono (h : ∀ r, Le (rec r) (rec' r)) (ops : Array Oper) : ∀ (l : List Nat) (s : St), Le (C.runOps rec ops l s) (C.runOps rec' ops l s)
  | [], s => Le.refl _
  | i :: r, s => by
    intro x hx
    unfold Cfg.runOps at hx ⊢
    split at hx
    · exact absurd hx (by simp)
    · rename_i s' hs
      simp only [runOp_mono C h _ _ _ _ hs]
      exact runOps_mono h ops r s' _ hx
theorem runOpsD_mono (h : ∀ r, Le (rec r) (rec' r)) (ops : Array Oper) : ∀ (l : List Nat) (s : St), Le (C.runOpsD rec ops l s) (C.runOpsD rec' ops l s)
  | [], s => Le.refl _
  | i :: r, s => by
    intro x hx
    unfold Cfg.runOpsD at hx ⊢
    split at hx
    · exact absurd hx (by simp)
    · rename_i s' hs
      simp only [runOpD_mono C h _ _ _ _ hs]
      exact runOpsD_mono h ops r s' _ hx
theorem runRegion_mono (h : ∀ r, Le (rec r) (rec' r)) (ops : Array Oper) (d : Bool) (s : St) : Le (C.runRegion rec ops d s) (C.runRegion rec' ops d s) := by
  intro x hx
  unfold Cfg.runRegion at hx ⊢
  obtain ⟨y, hy, rfl⟩ := Option.map_eq_some_iff.1 hx
  have : (if d = true then C.runOpsD rec' ops (List.range ops.size) s else C.runOps rec' ops (List.range ops.size) s) = some y := by
    split
    · rename_i hd
      rw [if_pos hd] at hy
      exact runOpsD_mono C h _ _ _ _ hy
    · rename_i hd
      rw [if_neg hd] at hy
      exact runOps_mono C h _ _ _ _ hy
  rw [this]; rfl
theorem runC_mono (h : ∀ r, Le (rec r) (rec' r)) (f : FuncId) : ∀ (c : Code) (p : List Bool) (l : Live) (s : St), Le (C.runC rec f p l c s) (C.runC rec' f p l c s)
  | .skip, p, l, s => Le.refl _
  | .region _ ops d, p, l, s => by
    intro x hx
    unfold Cfg.runC at hx ⊢
    obtain ⟨y, hy, rfl⟩ := Option.map_eq_some_iff.1 hx
    rw [runRegion_mono C h _ _ _ _ hy]; rfl
  | .seq a b, p, l, s => by
    intro x hx
    unfold Cfg.runC at hx ⊢
    split at hx
    · rename_i s' hs
      simp only [runC_mono h f a _ _ _ _ hs]
      exact runC_mono h f b _ _ _ _ hx
    · rename_i hn
      have := runC_mono h f a _ _ _ _ hx
      simp only [this]
      split
      · rename_i s' hs
        rw [hs] at this
        exact absurd (hx.trans (by rw [hs])) (fun e => hn s' (e ▸ rfl))
      · rfl
  | .cond c a b, p, l, s => by
    intro x hx
    unfold Cfg.runC at hx ⊢
    split
    · rename_i t ht
      simp only [ht] at hx
      cases t with
      | true => exact runC_mono h f a _ _ _ _ hx
      | false => exact runC_mono h f b _ _ _ _ hx
    · rename_i hn
      split at hx
      · rename_i t ht
        exact absurd ht (hn t)
      · exact absurd hx (by simp)
  | .block id c, p, l, s => by
    intro x hx
    unfold Cfg.runC at hx ⊢
    split at hx
    · rename_i j s' hs
      simp only [runC_mono h f c _ _ _ _ hs]
      exact hx
    · rename_i hn
      have := runC_mono h f c _ _ _ _ hx
      simp only [this]
      split
      · rename_i j s' hs
        exact absurd (hx.trans hs) (hn j s')
      · rfl
  | .loop c, p, l, s => by
    intro x hx
    unfold Cfg.runC at hx ⊢
    dsimp only at hx ⊢
    split at hx
    · exact absurd hx (by simp)
    · split at hx
      · rename_i hs
        simp only [h _ _ hs]
        exact hx
      · exact absurd hx (by simp)
  | .exit _, p, l, s => Le.refl _
  | .ret, p, l, s => Le.refl _
  | .rangeFunc g ps as bd, p, l, s => by
    intro x hx
    unfold Cfg.runC at hx ⊢
    split at hx
    · rename_i xs vals hs h1 h2
      split at hx
      · rename_i hr
        simp only [h _ _ hr]
        exact hx
      · exact absurd hx (by simp)
    · exact absurd hx (by simp)
  | .scope c, p, l, s => by
    intro x hx
    unfold Cfg.runC at hx ⊢
    exact runC_mono h f c _ _ _ _ hx
  | .label .., p, l, s => Le.refl _
  | .goto .., p, l, s => Le.refl _
  | .refuse .., p, l, s => Le.refl _
theorem callBody_mono (h : ∀ r, Le (rec r) (rec' r)) (f : FuncId) (args : List DV) (hs : List (Option Blk)) (fn : Func) (c : Code) : Le (C.callBody rec f args hs fn c) (C.callBody rec' f args hs fn c) := by
  intro x hx
  unfold Cfg.callBody at hx ⊢
  split at hx
  · rename_i s hr
    simp only [runC_mono C h _ _ _ _ _ _ hr]
    exact hx
  · rename_i s hr
    simp only [runC_mono C h _ _ _ _ _ _ hr]
    exact hx
  · exact absurd hx (by simp)
theorem loopBody_mono (h : ∀ r, Le (rec r) (rec' r)) (f : FuncId) (p : List Bool) (m : Nat) (vals : List (Option DV)) (hs : List (Option Blk)) (b : Code) (l : Live) : Le (C.loopBody rec f p m vals hs b l) (C.loopBody rec' f p m vals hs b l) := by
  intro x hx
  unfold Cfg.loopBody at hx ⊢
  split at hx
  · exact absurd hx (by simp)
  · rename_i s hr
    simp only [runC_mono C h _ _ _ _ _ _ hr]
    split at hx
    · rename_i hp
      exact h _ _ hx
    · exact absurd hx (by simp)
  · rename_i e s hn hr
    simp only [runC_mono C h _ _ _ _ _ _ hr]
    cases e with
    | normal => exact absurd rfl hn
    | exit id => exact hx
    | ret => exact hx
theorem eachBody_mono (h : ∀ r, Le (rec r) (rec' r)) (f : FuncId) (p : List Bool) (m : Nat) (xs : List (List DV)) (vals : List (Option DV)) (hs : List (Option Blk)) (ps : Array Nat) (as bd : Code) (l : Live) : Le (C.eachBody rec f p m xs vals hs ps as bd l) (C.eachBody rec' f p m xs vals hs ps as bd l) := by
  intro x hx
  cases xs with
  | nil => exact hx
  | cons y r =>
    unfold Cfg.eachBody at hx ⊢
    dsimp only at hx ⊢
    split at hx
    · rename_i hc
      rw [if_pos hc]
      split at hx
      · rename_i s1 h1
        simp only [runC_mono C h _ _ _ _ _ _ h1]
        split at hx
        · exact absurd hx (by simp)
        · rename_i s h2
          simp only [runC_mono C h _ _ _ _ _ _ h2]
          split at hx
          · exact h _ _ hx
          · exact absurd hx (by simp)
        · rename_i e s hn h2
          simp only [runC_mono C h _ _ _ _ _ _ h2]
          cases e with
          | normal => exact absurd rfl hn
          | exit id => exact hx
          | ret => exact hx
      · exact absurd hx (by simp)
    · exact absurd hx (by simp)
theorem step_mono (h : ∀ r, Le (rec r) (rec' r)) : ∀ r, Le (C.step rec r) (C.step rec' r) := by
  intro r x hx
  cases r with
  | call f args hs =>
    unfold Cfg.step at hx ⊢
    dsimp only at hx ⊢
    split at hx
    · exact absurd hx (by simp)
    · split at hx
      · exact absurd hx (by simp)
      · exact callBody_mono C h _ _ _ _ _ _ hx
  | loop f p m vals hs =>
    unfold Cfg.step at hx ⊢
    dsimp only at hx ⊢
    split at hx
    · exact absurd hx (by simp)
    · split at hx
      · exact absurd hx (by simp)
      · split at hx
        · exact loopBody_mono C h _ _ _ _ _ _ _ _ hx
        · exact absurd hx (by simp)
  | each f p m xs vals hs =>
    unfold Cfg.step at hx ⊢
    dsimp only at hx ⊢
    split at hx
    · exact absurd hx (by simp)
    · split at hx
      · exact absurd hx (by simp)
      · split at hx
        · exact eachBody_mono C h _ _ _ _ _ _ _ _ _ _ _ hx
        · exact absurd hx (by simp)
theorem runN_mono : ∀ (n : Nat) (r : Req), Le (C.runN n r) (C.runN (n + 1) r)
  | 0, r => fun x hx => by cases hx
  | n + 1, r => step_mono C (fun q => runN_mono n q) r
theorem runN_le {n m : Nat} (h : n ≤ m) (r : Req) : Le (C.runN n r) (C.runN m r) := by
  induction m with
  | zero =>
    obtain rfl : n = 0 := by omega
    exact Le.refl _
  | succ m ih =>
    by_cases hn : n = m + 1
    · subst hn; exact Le.refl _
    · exact fun x hx => runN_mono C m r x (ih (by omega) x hx)
noncomputable def Cfg.run (r : Req) : Option Res := open Classical in if h : ∃ x n, C.runN n r = some x then some h.choose else none
theorem run_iff (r : Req) (x : Res) : C.run r = some x ↔ ∃ n, C.runN n r = some x := by
  unfold Cfg.run
  constructor
  · intro h
    split at h
    · rename_i hx
      simp only [Option.some.injEq] at h
      subst h
      exact hx.choose_spec
    · cases h
  · rintro ⟨n, hn⟩
    have hx : ∃ x n, C.runN n r = some x := ⟨x, n, hn⟩
    rw [dif_pos hx]
    obtain ⟨m, hm⟩ := hx.choose_spec
    have h1 := runN_le C (Nat.le_max_left n m) r x hn
    have h2 := runN_le C (Nat.le_max_right n m) r _ hm
    rw [h1] at h2
    exact h2.symm
theorem run_of_runN (n : Nat) (r : Req) (x : Res) (h : C.runN n r = some x) : C.run r = some x := (run_iff C r x).2 ⟨n, h⟩
def Fin {α : Type} (F : (Req → Option Res) → Option α) : Prop := (∀ rec rec', (∀ r, Le (rec r) (rec' r)) → Le (F rec) (F rec')) ∧ ∀ x, F C.run = some x → ∃ n, F (C.runN n) = some x
theorem fin_callD (slot : Nat) (rd : Nat → Option Blk) (g : FuncId) (args : List DV) : Fin C fun rec => C.callD rec slot rd g args := by
  refine ⟨fun rec rec' h => callD_mono C h slot rd g args, fun x hx => ?_⟩
  dsimp only at hx ⊢
  unfold Cfg.callD at hx ⊢
  split at hx
  · split at hx
    · split at hx
      · rename_i v hs hr
        obtain ⟨n, hn⟩ := (run_iff C _ _).1 hr
        exact ⟨n, by rw [hn]; exact hx⟩
      · cases hx
    · cases hx
  · split at hx
    · cases hx
    · rename_i args' ha
      split at hx
      · rename_i v hs hr
        have : ∃ n, C.askD (C.runN n) g args' = some (.done v hs) := by
          unfold Cfg.askD at hr ⊢
          split at hr
          · exact ⟨0, hr⟩
          · exact (run_iff C _ _).1 hr
        obtain ⟨n, hn⟩ := this
        exact ⟨n, by rw [hn]; exact hx⟩
      · cases hx
  · cases hx
theorem fin_stepD (slot : Nat) (ev : Operand → Option DV) (rd : Nat → Option Blk) (o : Oper) : Fin C fun rec => C.stepD rec slot ev rd o := by
  refine ⟨fun rec rec' h => stepD_mono C h slot ev rd o, fun x hx => ?_⟩
  dsimp only at hx ⊢
  unfold Cfg.stepD at hx ⊢
  split at hx
  · split at hx
    · exact ⟨0, hx⟩
    · split at hx
      · exact (fin_callD C _ _ _ _).2 x hx
      · cases hx
  · exact ⟨0, hx⟩
theorem fin_runOp (ops : Array Oper) (i : Nat) (s : St) : Fin C fun rec => C.runOp rec ops i s := by
  refine ⟨fun rec rec' h => runOp_mono C h ops i s, fun x hx => ?_⟩
  dsimp only at hx ⊢
  unfold Cfg.runOp at hx ⊢
  split at hx
  · cases hx
  · split at hx
    · cases hx
    · exact ⟨0, hx⟩
    · split at hx
      · cases hx
      · rename_i v e hs
        obtain ⟨n, hn⟩ := (fin_stepD C _ _ _ _).2 _ hs
        dsimp only at hn
        exact ⟨n, by rw [hn]; exact hx⟩
theorem fin_runOpD (ops : Array Oper) (i : Nat) (s : St) : Fin C fun rec => C.runOpD rec ops i s := by
  refine ⟨fun rec rec' h => runOpD_mono C h ops i s, fun x hx => ?_⟩
  dsimp only at hx ⊢
  unfold Cfg.runOpD at hx ⊢
  split at hx
  · cases hx
  · dsimp only at hx ⊢
    split at hx
    · cases hx
    · exact ⟨0, hx⟩
    · split at hx
      · cases hx
      · rename_i v e hs
        obtain ⟨n, hn⟩ := (fin_stepD C _ _ _ _).2 _ hs
        dsimp only at hn
        exact ⟨n, by rw [hn]; exact hx⟩
theorem Fin.both {α β : Type} {F : (Req → Option Res) → Option α} {G : α → (Req → Option Res) → Option β} {a : α} {b : β} (hF : Fin C F) (hG : Fin C (G a)) (h1 : F C.run = some a) (h2 : G a C.run = some b) : ∃ n, F (C.runN n) = some a ∧ G a (C.runN n) = some b := by
  obtain ⟨n, hn⟩ := hF.2 a h1
  obtain ⟨m, hm⟩ := hG.2 b h2
  exact ⟨max n m, hF.1 _ _ (fun r => runN_le C (Nat.le_max_left n m) r) a hn, hG.1 _ _ (fun r => runN_le C (Nat.le_max_right n m) r) b hm⟩
theorem fin_runOps (ops : Array Oper) : ∀ (l : List Nat) (s : St), Fin C fun rec => C.runOps rec ops l s
  | [], s => ⟨fun _ _ _ => Le.refl _, fun x hx => ⟨0, hx⟩⟩
  | i :: r, s => by
    refine ⟨fun rec rec' h => runOps_mono C h ops (i :: r) s, fun x hx => ?_⟩
    dsimp only at hx ⊢
    unfold Cfg.runOps at hx ⊢
    split at hx
    · cases hx
    · rename_i s' hs
      obtain ⟨n, h1, h2⟩ := Fin.both C (G := fun s' rec => C.runOps rec ops r s') (fin_runOp C ops i s) (fin_runOps ops r s') hs hx
      exact ⟨n, by rw [h1]; exact h2⟩
theorem fin_runOpsD (ops : Array Oper) : ∀ (l : List Nat) (s : St), Fin C fun rec => C.runOpsD rec ops l s
  | [], s => ⟨fun _ _ _ => Le.refl _, fun x hx => ⟨0, hx⟩⟩
  | i :: r, s => by
    refine ⟨fun rec rec' h => runOpsD_mono C h ops (i :: r) s, fun x hx => ?_⟩
    dsimp only at hx ⊢
    unfold Cfg.runOpsD at hx ⊢
    split at hx
    · cases hx
    · rename_i s' hs
      obtain ⟨n, h1, h2⟩ := Fin.both C (G := fun s' rec => C.runOpsD rec ops r s') (fin_runOpD C ops i s) (fin_runOpsD ops r s') hs hx
      exact ⟨n, by rw [h1]; exact h2⟩
theorem fin_runRegion (ops : Array Oper) (d : Bool) (s : St) : Fin C fun rec => C.runRegion rec ops d s := by
  refine ⟨fun rec rec' h => runRegion_mono C h ops d s, fun x hx => ?_⟩
  dsimp only at hx ⊢
  unfold Cfg.runRegion at hx ⊢
  obtain ⟨y, hy, rfl⟩ := Option.map_eq_some_iff.1 hx
  cases d with
  | true =>
    obtain ⟨n, hn⟩ := (fin_runOpsD C ops _ s).2 y hy
    exact ⟨n, by simp only [if_true] at hn ⊢; rw [hn]; rfl⟩
  | false =>
    obtain ⟨n, hn⟩ := (fin_runOps C ops _ s).2 y hy
    exact ⟨n, by simp only [Bool.false_eq_true, if_false] at hn ⊢; rw [hn]; rfl⟩
theorem fin_runC (f : FuncId) : ∀ (c : Code) (p : List Bool) (l : Live) (s : St), Fin C fun rec => C.runC rec f p l c s
  | .skip, p, l, s => ⟨fun _ _ _ => Le.refl _, fun x hx => ⟨0, hx⟩⟩
  | .region _ ops d, p, l, s => by
    refine ⟨fun rec rec' h => runC_mono C h f _ p l s, fun x hx => ?_⟩
    dsimp only at hx ⊢
    unfold Cfg.runC at hx ⊢
    obtain ⟨y, hy, rfl⟩ := Option.map_eq_some_iff.1 hx
    obtain ⟨n, hn⟩ := (fin_runRegion C ops d s).2 y hy
    dsimp only at hn
    exact ⟨n, by rw [hn]; rfl⟩
  | .seq a b, p, l, s => by
    refine ⟨fun rec rec' h => runC_mono C h f _ p l s, fun x hx => ?_⟩
    dsimp only at hx ⊢
    unfold Cfg.runC at hx ⊢
    split at hx
    · rename_i s' hs
      obtain ⟨n, h1, h2⟩ := Fin.both C (G := fun (q : Ex × St) rec => C.runC rec f (true :: p) l b q.2) (fin_runC f a _ _ _) (fin_runC f b _ _ s') hs hx
      exact ⟨n, by rw [h1]; exact h2⟩
    · rename_i hn
      obtain ⟨n, h1⟩ := (fin_runC f a _ _ _).2 x hx
      refine ⟨n, ?_⟩
      dsimp only at h1
      rw [h1]
      split
      · rename_i s' hs
        rw [hs] at hx
        exact absurd hx (hn s')
      · rfl
  | .cond c a b, p, l, s => by
    refine ⟨fun rec rec' h => runC_mono C h f _ p l s, fun x hx => ?_⟩
    dsimp only at hx ⊢
    unfold Cfg.runC at hx ⊢
    split at hx
    · rename_i t ht
      cases t with
      | true => exact (fin_runC f a _ _ _).2 x hx
      | false => exact (fin_runC f b _ _ _).2 x hx
    · cases hx
  | .block id c, p, l, s => by
    refine ⟨fun rec rec' h => runC_mono C h f _ p l s, fun x hx => ?_⟩
    dsimp only at hx ⊢
    unfold Cfg.runC at hx ⊢
    split at hx
    · rename_i j s' hs
      obtain ⟨n, h1⟩ := (fin_runC f c _ _ _).2 _ hs
      dsimp only at h1
      exact ⟨n, by rw [h1]; exact hx⟩
    · rename_i hn
      obtain ⟨n, h1⟩ := (fin_runC f c _ _ _).2 x hx
      refine ⟨n, ?_⟩
      dsimp only at h1
      rw [h1]
      split
      · rename_i j s' hs
        rw [hs] at hx
        exact absurd hx (hn j s')
      · rfl
  | .loop c, p, l, s => by
    refine ⟨fun rec rec' h => runC_mono C h f _ p l s, fun x hx => ?_⟩
    dsimp only at hx ⊢
    unfold Cfg.runC at hx ⊢
    dsimp only at hx ⊢
    split at hx
    · cases hx
    · split at hx
      · rename_i hr
        obtain ⟨n, hn⟩ := (run_iff C _ _).1 hr
        exact ⟨n, by rw [hn]; exact hx⟩
      · cases hx
  | .exit _, p, l, s => ⟨fun _ _ _ => Le.refl _, fun x hx => ⟨0, hx⟩⟩
  | .ret, p, l, s => ⟨fun _ _ _ => Le.refl _, fun x hx => ⟨0, hx⟩⟩
  | .rangeFunc g ps as bd, p, l, s => by
    refine ⟨fun rec rec' h => runC_mono C h f _ p l s, fun x hx => ?_⟩
    dsimp only at hx ⊢
    unfold Cfg.runC at hx ⊢
    split at hx
    · rename_i xs vals hs h1 h2
      split at hx
      · rename_i hr
        obtain ⟨n, hn⟩ := (run_iff C _ _).1 hr
        exact ⟨n, by rw [hn]; exact hx⟩
      · cases hx
    · cases hx
  | .scope c, p, l, s => by
    refine ⟨fun rec rec' h => runC_mono C h f _ p l s, fun x hx => ?_⟩
    dsimp only at hx ⊢
    unfold Cfg.runC at hx ⊢
    exact (fin_runC f c _ _ _).2 x hx
  | .label .., p, l, s => ⟨fun _ _ _ => Le.refl _, fun x hx => ⟨0, hx⟩⟩
  | .goto .., p, l, s => ⟨fun _ _ _ => Le.refl _, fun x hx => ⟨0, hx⟩⟩
  | .refuse .., p, l, s => ⟨fun _ _ _ => Le.refl _, fun x hx => ⟨0, hx⟩⟩
theorem fin_eachBody (f : FuncId) (p : List Bool) (m : Nat) (xs : List (List DV)) (vals : List (Option DV)) (hs : List (Option Blk)) (ps : Array Nat) (as bd : Code) (l : Live) : Fin C fun rec => C.eachBody rec f p m xs vals hs ps as bd l := by
  refine ⟨fun rec rec' h => eachBody_mono C h _ _ _ _ _ _ _ _ _ _, fun x hx => ?_⟩
  dsimp only at hx ⊢
  cases xs with
  | nil => exact ⟨0, hx⟩
  | cons y r =>
    unfold Cfg.eachBody at hx ⊢
    dsimp only at hx ⊢
    split at hx
    · rename_i hc
      simp only [if_pos hc]
      split at hx
      · rename_i s1 h1
        split at hx
        · cases hx
        · rename_i s h2
          split at hx
          · rename_i vals2 hs2 hp
            have hG : Fin C fun rec => rec (.each f p m r vals2 hs2) := ⟨fun rec rec' h => h _, fun x hx => (run_iff C _ _).1 hx⟩
            obtain ⟨n, k1, k2⟩ := Fin.both C (G := fun (q : Ex × St) rec => C.runC rec f (true :: p) l.inR bd q.2) (fin_runC C f as _ _ _) (fin_runC C f bd _ _ s1) h1 h2
            obtain ⟨n2, k3⟩ := hG.2 x hx
            refine ⟨max n n2, ?_⟩
            have e1 := runC_mono C (fun r => runN_le C (Nat.le_max_left n n2) r) _ _ _ _ _ _ k1
            have e2 := runC_mono C (fun r => runN_le C (Nat.le_max_left n n2) r) _ _ _ _ _ _ k2
            have e3 := runN_le C (Nat.le_max_right n n2) _ _ k3
            rw [e1]
            dsimp only
            rw [e2]
            dsimp only
            rw [hp]
            exact e3
          · cases hx
        · rename_i e s hn h2
          obtain ⟨n, k1, k2⟩ := Fin.both C (G := fun (q : Ex × St) rec => C.runC rec f (true :: p) l.inR bd q.2) (fin_runC C f as _ _ _) (fin_runC C f bd _ _ s1) h1 h2
          refine ⟨n, ?_⟩
          dsimp only at k2
          rw [k1]
          dsimp only
          rw [k2]
          cases e with
          | normal => exact absurd rfl hn
          | exit id => exact hx
          | ret => exact hx
      · cases hx
    · cases hx
theorem fin_step (r : Req) : Fin C fun rec => C.step rec r := by
  refine ⟨fun rec rec' h => step_mono C h r, fun x hx => ?_⟩
  dsimp only at hx ⊢
  cases r with
  | call f args hs =>
    unfold Cfg.step at hx ⊢
    dsimp only at hx ⊢
    split at hx
    · cases hx
    · split at hx
      · cases hx
      · unfold Cfg.callBody at hx ⊢
        split at hx
        · rename_i s hr
          obtain ⟨n, h1⟩ := (fin_runC C f _ _ _ _).2 _ hr
          dsimp only at h1
          exact ⟨n, by rw [h1]; exact hx⟩
        · rename_i s hr
          obtain ⟨n, h1⟩ := (fin_runC C f _ _ _ _).2 _ hr
          dsimp only at h1
          exact ⟨n, by rw [h1]; exact hx⟩
        · cases hx
  | loop f p m vals hs =>
    unfold Cfg.step at hx ⊢
    dsimp only at hx ⊢
    split at hx
    · cases hx
    · split at hx
      · cases hx
      · split at hx
        · rename_i b l hat
          unfold Cfg.loopBody at hx ⊢
          split at hx
          · cases hx
          · rename_i s hr
            split at hx
            · rename_i vals2 hs2 hp
              have hG : Fin C fun rec => rec (.loop f p m vals2 hs2) := ⟨fun rec rec' h => h _, fun x hx => (run_iff C _ _).1 hx⟩
              obtain ⟨n, h1, h2⟩ := Fin.both C (G := fun (_ : Ex × St) rec => rec (.loop f p m vals2 hs2)) (fin_runC C f _ _ _ _) hG hr hx
              exact ⟨n, by rw [h1]; dsimp only; rw [hp]; exact h2⟩
            · cases hx
          · rename_i e s hn hr
            obtain ⟨n, h1⟩ := (fin_runC C f _ _ _ _).2 _ hr
            dsimp only at h1
            refine ⟨n, ?_⟩
            rw [h1]
            cases e with
            | normal => exact absurd rfl hn
            | exit id => exact hx
            | ret => exact hx
        · cases hx
  | each f p m xs vals hs =>
    unfold Cfg.step at hx ⊢
    dsimp only at hx ⊢
    split at hx
    · cases hx
    · split at hx
      · cases hx
      · split at hx
        · exact (fin_eachBody C _ _ _ _ _ _ _ _ _ _).2 _ hx
        · cases hx
theorem run_of_step {r : Req} {x : Res} (h : C.step C.run r = some x) : C.run r = some x := by
  obtain ⟨n, hn⟩ := (fin_step C r).2 x h
  exact run_of_runN C (n + 1) r x hn
end
end Go.PM
end
section
namespace Go.PM
open Go
set_option linter.unusedVariables false
structure PB where
  b : Nat
  sz : Nat
  ext : Nat
abbrev Phi := Nat → Option (Option PB)
def CellsAt (w : World) (b o : Nat) (vs : List Value) : Prop := ∀ k x, vs[k]? = some x → w.cell? ⟨b, o + k, none⟩ = some x
def One (vs : List Value) : Prop := ∀ u ∈ vs, u.oneCell' = true
mutual
def Rep (w : World) (N : Nat → Prop) (φ : Phi) : DV → Value → Prop
  | .undef, v => v = Go.undef
  | .dead, v => v.oneCell' = true
  | .bool b, v => v = .bool b
  | .int k n, v => v = .int k n
  | .str s, v => ∃ t : ByteArray, v = .string t ∧ t.data.toList = s
  | .nilp, v => v = .pointer none
  | .ptr id ix off, v => v.oneCell' = true ∧ ∃ q, φ id = some q ∧ ∀ pb, q = some pb → v = .pointer (some ⟨pb.b, ix * pb.sz + off, none⟩)
  | .iptr e off, v => e.imm = true ∧ e.storable = true ∧ ∃ b o x, v = .pointer (some ⟨b, o + off, none⟩) ∧ b < w.heap.size ∧ ¬ N b ∧ Rep w N φ e x ∧ One x.cells.toList ∧ CellsAt w b o x.cells.toList
  | .list es t, v => DV.imms es = true ∧ ∃ A c, v = .slice A es.length c ∧ (t = true → c = es.length) ∧ es.length ≤ c ∧ (es = [] ∨ ∃ b o sz vs, A = some ⟨b, o, none⟩ ∧ b < w.heap.size ∧ ¬ N b ∧ RepEs w N φ sz es vs ∧ CellsAt w b o vs)
  | .ref id off len cap, v => v.oneCell' = true ∧ ∃ q, φ id = some q ∧ ∀ pb, q = some pb → ∃ c, v = .slice (some ⟨pb.b, off * pb.sz, none⟩) len c ∧ len ≤ c ∧
      (match cap with | some c' => c = c' ∧ (off + c) * pb.sz ≤ pb.ext | none => (off + c) * pb.sz = pb.ext)
  | .agg cs, v => ∃ vs, v = .agg vs ∧ RepL w N φ cs vs.toList ∧ One vs.toList
  | .tuple cs, v => ∃ vs, v = .tuple vs ∧ RepL w N φ cs vs.toList
  | .func f cs, v => ∃ vs, v = .func (.func f) #[] vs ∧ RepL w N φ cs vs.toList
  | .nilf, v => v = .nilFunc
  | .iface t d, v => ∃ x, v = .iface t x ∧ Rep w N φ d x
  | .nili, v => v = .nilIface
def RepL (w : World) (N : Nat → Prop) (φ : Phi) : List DV → List Value → Prop
  | [], vs => vs = []
  | d :: ds, vs => ∃ x r, vs = x :: r ∧ Rep w N φ d x ∧ RepL w N φ ds r
def RepEs (w : World) (N : Nat → Prop) (φ : Phi) (sz : Nat) : List DV → List Value → Prop
  | [], vs => vs = []
  | d :: ds, vs => ∃ x r, vs = x.cells.toList ++ r ∧ x.cells.size = sz ∧ d.storable = true ∧ One x.cells.toList ∧ Rep w N φ d x ∧ RepEs w N φ sz ds r
end
structure Later (w : World) (N : Nat → Prop) (φ : Phi) (w' : World) (N' : Nat → Prop) (φ' : Phi) : Prop where
  size : w.heap.size ≤ w'.heap.size
  same : ∀ b, b < w.heap.size → ¬ N b → w'.heap[b]? = w.heap[b]?
  less : ∀ b, b < w.heap.size → N' b → N b
  keep : ∀ id q, φ id = some q → φ' id = some q ∨ φ' id = some none
theorem cell_lt {w : World} {a : Addr} {x : Value} (h : w.cell? a = some x) : a.block < w.heap.size := by
  unfold World.cell? at h
  split at h
  · rename_i c e f hc
    exact (Array.getElem?_eq_some_iff.1 hc).1
  · exact absurd h (by simp)
theorem CellsAt.later {w w' : World} {b o : Nat} {vs : List Value} (h : CellsAt w b o vs) (hs : b < w.heap.size → w'.heap[b]? = w.heap[b]?) : CellsAt w' b o vs := fun k x hk => by
  have h1 := h k x hk
  have h2 := cell_lt h1
  rw [← h1]
  exact World.cell?_of_block (hs h2)
structure LaterC (w : World) (N : Nat → Prop) (φ : Phi) (w' : World) (N' : Nat → Prop) (φ' : Phi) : Prop where
  size : w.heap.size ≤ w'.heap.size
  cell : ∀ b i x, b < w.heap.size → ¬ N b → w.cell? ⟨b, i, none⟩ = some x → w'.cell? ⟨b, i, none⟩ = some x
  less : ∀ b, b < w.heap.size → N' b → N b
  keep : ∀ id q, φ id = some q → φ' id = some q ∨ φ' id = some none
theorem Later.toC {w w' : World} {N N' : Nat → Prop} {φ φ' : Phi} (L : Later w N φ w' N' φ') : LaterC w N φ w' N' φ' :=
  ⟨L.size, fun b i x hb hn h => by rw [← h]; exact World.cell?_of_block (L.same b hb hn), L.less, L.keep⟩
mutual
theorem Rep.laterC {w w' : World} {N N' : Nat → Prop} {φ φ' : Phi} (L : LaterC w N φ w' N' φ') : ∀ {d : DV} {v : Value}, Rep w N φ d v → Rep w' N' φ' d v
  | .undef, v, h => by unfold Rep at h ⊢; exact h
  | .dead, v, h => by unfold Rep at h ⊢; exact h
  | .bool b, v, h => by unfold Rep at h ⊢; exact h
  | .int k n, v, h => by unfold Rep at h ⊢; exact h
  | .str s, v, h => by unfold Rep at h ⊢; exact h
  | .nilp, v, h => by unfold Rep at h ⊢; exact h
  | .ptr id ix off, v, h => by
    unfold Rep at h ⊢
    obtain ⟨h0, q, h1, h2⟩ := h
    rcases L.keep id q h1 with h3 | h3
    · exact ⟨h0, q, h3, h2⟩
    · exact ⟨h0, none, h3, fun pb e => absurd e (by simp)⟩
  | .iptr e off, v, h => by
    unfold Rep at h ⊢
    obtain ⟨hi, hst, b, o, x, h1, hb, h2, h3, h4, h5⟩ := h
    exact ⟨hi, hst, b, o, x, h1, Nat.lt_of_lt_of_le hb L.size, fun n => h2 (L.less b hb n), Rep.laterC L h3, h4, fun k x hk => L.cell b _ x hb h2 (h5 k x hk)⟩
  | .list es t, v, h => by
    unfold Rep at h ⊢
    obtain ⟨hi, A, c, h1, h2, h3, h4⟩ := h
    refine ⟨hi, A, c, h1, h2, h3, ?_⟩
    rcases h4 with h4 | ⟨b, o, sz, vs, h5, hb, h6, h7, h8⟩
    · exact .inl h4
    · exact .inr ⟨b, o, sz, vs, h5, Nat.lt_of_lt_of_le hb L.size, fun n => h6 (L.less b hb n), RepEs.laterC L h7, fun k x hk => L.cell b _ x hb h6 (h8 k x hk)⟩
  | .ref id off len cap, v, h => by
    unfold Rep at h ⊢
    obtain ⟨h0, q, h1, h2⟩ := h
    rcases L.keep id q h1 with h3 | h3
    · exact ⟨h0, q, h3, h2⟩
    · exact ⟨h0, none, h3, fun pb e => absurd e (by simp)⟩
  | .agg cs, v, h => by
    unfold Rep at h ⊢
    obtain ⟨vs, h1, h2, h3⟩ := h
    exact ⟨vs, h1, RepL.laterC L h2, h3⟩
  | .tuple cs, v, h => by
    unfold Rep at h ⊢
    obtain ⟨vs, h1, h2⟩ := h
    exact ⟨vs, h1, RepL.laterC L h2⟩
  | .func f cs, v, h => by
    unfold Rep at h ⊢
    obtain ⟨vs, h1, h2⟩ := h
    exact ⟨vs, h1, RepL.laterC L h2⟩
  | .nilf, v, h => by unfold Rep at h ⊢; exact h
  | .iface t d, v, h => by
    unfold Rep at h ⊢
    obtain ⟨x, h1, h2⟩ := h
    exact ⟨x, h1, Rep.laterC L h2⟩
  | .nili, v, h => by unfold Rep at h ⊢; exact h
theorem RepL.laterC {w w' : World} {N N' : Nat → Prop} {φ φ' : Phi} (L : LaterC w N φ w' N' φ') : ∀ {d : List DV} {v : List Value}, RepL w N φ d v → RepL w' N' φ' d v
  | [], v, h => by unfold RepL at h ⊢; exact h
  | d :: ds, v, h => by
    unfold RepL at h ⊢
    obtain ⟨x, r, h1, h2, h3⟩ := h
    exact ⟨x, r, h1, Rep.laterC L h2, RepL.laterC L h3⟩
theorem RepEs.laterC {w w' : World} {N N' : Nat → Prop} {φ φ' : Phi} (L : LaterC w N φ w' N' φ') {sz : Nat} : ∀ {d : List DV} {v : List Value}, RepEs w N φ sz d v → RepEs w' N' φ' sz d v
  | [], v, h => by unfold RepEs at h ⊢; exact h
  | d :: ds, v, h => by
    unfold RepEs at h ⊢
    obtain ⟨x, r, h1, h2, h3, h4, h5, h6⟩ := h
    exact ⟨x, r, h1, h2, h3, h4, Rep.laterC L h5, RepEs.laterC L h6⟩
end
theorem Rep.later {w w' : World} {N N' : Nat → Prop} {φ φ' : Phi} (L : Later w N φ w' N' φ') {d : DV} {v : Value} (h : Rep w N φ d v) : Rep w' N' φ' d v := h.laterC L.toC
theorem RepL.later {w w' : World} {N N' : Nat → Prop} {φ φ' : Phi} (L : Later w N φ w' N' φ') {d : List DV} {v : List Value} (h : RepL w N φ d v) : RepL w' N' φ' d v := h.laterC L.toC
theorem RepEs.later {w w' : World} {N N' : Nat → Prop} {φ φ' : Phi} (L : Later w N φ w' N' φ') {sz : Nat} {d : List DV} {v : List Value} (h : RepEs w N φ sz d v) : RepEs w' N' φ' sz d v := h.laterC L.toC
section
variable {w : World} {N : Nat → Prop} {φ : Phi}
theorem RepL.len : ∀ {ds : List DV} {vs : List Value}, RepL w N φ ds vs → vs.length = ds.length
  | [], vs, h => by unfold RepL at h; subst h; rfl
  | d :: ds, vs, h => by
    unfold RepL at h
    obtain ⟨x, r, rfl, _, h3⟩ := h
    simp [RepL.len h3]
theorem RepL.get : ∀ {ds : List DV} {vs : List Value} (i : Nat) {d : DV}, RepL w N φ ds vs → ds[i]? = some d → ∃ v, vs[i]? = some v ∧ Rep w N φ d v
  | [], vs, i, d, h, hd => absurd hd (by simp)
  | d :: ds, vs, 0, e, h, hd => by
    unfold RepL at h
    obtain ⟨x, r, rfl, h2, h3⟩ := h
    simp only [List.getElem?_cons_zero, Option.some.injEq] at hd
    subst hd
    exact ⟨x, rfl, h2⟩
  | d :: ds, vs, i + 1, e, h, hd => by
    unfold RepL at h
    obtain ⟨x, r, rfl, h2, h3⟩ := h
    simp only [List.getElem?_cons_succ] at hd ⊢
    exact RepL.get i h3 hd
theorem RepL.append : ∀ {ds es : List DV} {vs us : List Value}, RepL w N φ ds vs → RepL w N φ es us → RepL w N φ (ds ++ es) (vs ++ us)
  | [], es, vs, us, h, k => by unfold RepL at h; subst h; exact k
  | d :: ds, es, vs, us, h, k => by
    unfold RepL at h
    obtain ⟨x, r, rfl, h2, h3⟩ := h
    show RepL w N φ (d :: (ds ++ es)) (x :: r ++ us)
    unfold RepL
    exact ⟨x, r ++ us, rfl, h2, RepL.append h3 k⟩
theorem RepL.drop : ∀ (i : Nat) {ds : List DV} {vs : List Value}, RepL w N φ ds vs → RepL w N φ (ds.drop i) (vs.drop i)
  | 0, ds, vs, h => by simpa using h
  | i + 1, [], vs, h => by unfold RepL at h; subst h; simp [RepL]
  | i + 1, d :: ds, vs, h => by
    unfold RepL at h
    obtain ⟨x, r, rfl, h2, h3⟩ := h
    exact RepL.drop i h3
theorem RepL.take : ∀ (i : Nat) {ds : List DV} {vs : List Value}, RepL w N φ ds vs → RepL w N φ (ds.take i) (vs.take i)
  | 0, ds, vs, h => by simp [RepL]
  | i + 1, [], vs, h => by unfold RepL at h; subst h; simp [RepL]
  | i + 1, d :: ds, vs, h => by
    unfold RepL at h
    obtain ⟨x, r, rfl, h2, h3⟩ := h
    simp only [List.take_succ_cons]
    unfold RepL
    exact ⟨x, _, rfl, h2, RepL.take i h3⟩
theorem RepL.one {d : DV} {v : Value} (h : Rep w N φ d v) : RepL w N φ [d] [v] := by
  unfold RepL; exact ⟨v, [], rfl, h, by unfold RepL; rfl⟩
theorem One.append {a b : List Value} (h : One a) (k : One b) : One (a ++ b) := fun u hu => (List.mem_append.1 hu).elim (h u) (k u)
theorem One.take {a : List Value} (h : One a) (n : Nat) : One (a.take n) := fun u hu => h u (List.mem_of_mem_take hu)
theorem One.drop {a : List Value} (h : One a) (n : Nat) : One (a.drop n) := fun u hu => h u (List.mem_of_mem_drop hu)
theorem cells_one {v : Value} (h : v.oneCell' = true) : v.cells = #[v] := by cases v <;> first | rfl | exact absurd h (by simp [Value.oneCell'])
theorem Rep.cells {d : DV} {v : Value} (h : Rep w N φ d v) (hs : d.storable = true) : RepL w N φ d.cells v.cells.toList ∧ One v.cells.toList := by
  have single : v.oneCell' = true → d.cells = [d] → RepL w N φ d.cells v.cells.toList ∧ One v.cells.toList := fun h1 h2 => by
    rw [h2, cells_one h1]
    exact ⟨RepL.one h, fun u hu => by simp at hu; subst hu; exact h1⟩
  cases d with
  | undef => exact absurd hs (by simp [DV.storable])
  | tuple cs => exact absurd hs (by simp [DV.storable])
  | agg cs =>
    unfold Rep at h
    obtain ⟨vs, rfl, h2, h3⟩ := h
    exact ⟨h2, h3⟩
  | dead => exact single (by unfold Rep at h; exact h) rfl
  | bool b => exact single (by unfold Rep at h; subst h; rfl) rfl
  | int k n => exact single (by unfold Rep at h; subst h; rfl) rfl
  | str s => exact single (by unfold Rep at h; obtain ⟨t, rfl, _⟩ := h; rfl) rfl
  | nilp => exact single (by unfold Rep at h; subst h; rfl) rfl
  | ptr id ix off => exact single (by unfold Rep at h; exact h.1) rfl
  | iptr e off => exact single (by unfold Rep at h; obtain ⟨_, _, b, o, x, rfl, _⟩ := h; rfl) rfl
  | list es t => exact single (by unfold Rep at h; obtain ⟨_, A, c, rfl, _⟩ := h; rfl) rfl
  | ref id off len cap => exact single (by unfold Rep at h; exact h.1) rfl
  | func f cs => exact single (by unfold Rep at h; obtain ⟨vs, rfl, _⟩ := h; rfl) rfl
  | nilf => exact single (by unfold Rep at h; subst h; rfl) rfl
  | iface t d => exact single (by unfold Rep at h; obtain ⟨x, rfl, _⟩ := h; rfl) rfl
  | nili => exact single (by unfold Rep at h; subst h; rfl) rfl
theorem drop_len {α : Type} (a r : List α) (n : Nat) : (a ++ r).drop (a.length + n) = r.drop n := by
  rw [List.drop_append, List.drop_of_length_le (by omega), List.nil_append, Nat.add_sub_cancel_left]
theorem RepEs.len {sz : Nat} : ∀ {ds : List DV} {vs : List Value}, RepEs w N φ sz ds vs → vs.length = ds.length * sz
  | [], vs, h => by unfold RepEs at h; subst h; simp
  | d :: ds, vs, h => by
    unfold RepEs at h
    obtain ⟨x, r, rfl, h2, _, _, _, h3⟩ := h
    simp only [List.length_append, List.length_cons, RepEs.len h3, Array.length_toList, h2, Nat.add_mul]
    omega
theorem RepEs.ones {sz : Nat} : ∀ {ds : List DV} {vs : List Value}, RepEs w N φ sz ds vs → One vs
  | [], vs, h => by unfold RepEs at h; subst h; exact fun u hu => absurd hu (by simp)
  | d :: ds, vs, h => by
    unfold RepEs at h
    obtain ⟨x, r, rfl, _, _, h3, _, h4⟩ := h
    exact One.append h3 (RepEs.ones h4)
theorem RepEs.get {sz : Nat} : ∀ {ds : List DV} {vs : List Value} (i : Nat) {d : DV}, RepEs w N φ sz ds vs → ds[i]? = some d →
    ∃ x, Rep w N φ d x ∧ d.storable = true ∧ x.cells.size = sz ∧ One x.cells.toList ∧ (vs.drop (i * sz)).take sz = x.cells.toList
  | [], vs, i, d, h, hd => absurd hd (by simp)
  | d :: ds, vs, 0, e, h, hd => by
    unfold RepEs at h
    obtain ⟨x, r, rfl, h2, h3, h4, h5, _⟩ := h
    simp only [List.getElem?_cons_zero, Option.some.injEq] at hd
    subst hd
    refine ⟨x, h5, h3, h2, h4, ?_⟩
    simp only [Nat.zero_mul, List.drop_zero]
    rw [← h2, ← Array.length_toList]
    exact List.take_left
  | d :: ds, vs, i + 1, e, h, hd => by
    unfold RepEs at h
    obtain ⟨x, r, rfl, h2, h3, h4, h5, h6⟩ := h
    simp only [List.getElem?_cons_succ] at hd
    obtain ⟨y, k1, k2, k3, k4, k5⟩ := RepEs.get i h6 hd
    refine ⟨y, k1, k2, k3, k4, ?_⟩
    have : (i + 1) * sz = x.cells.toList.length + i * sz := by rw [Array.length_toList, h2, Nat.add_mul]; omega
    rw [this, drop_len]
    exact k5
theorem RepEs.append {sz : Nat} : ∀ {ds es : List DV} {vs us : List Value}, RepEs w N φ sz ds vs → RepEs w N φ sz es us → RepEs w N φ sz (ds ++ es) (vs ++ us)
  | [], es, vs, us, h, k => by unfold RepEs at h; subst h; exact k
  | d :: ds, es, vs, us, h, k => by
    unfold RepEs at h
    obtain ⟨x, r, rfl, h2, h3, h4, h5, h6⟩ := h
    show RepEs w N φ sz (d :: (ds ++ es)) _
    unfold RepEs
    exact ⟨x, r ++ us, by rw [List.append_assoc], h2, h3, h4, h5, RepEs.append h6 k⟩
theorem RepEs.drop {sz : Nat} : ∀ (i : Nat) {ds : List DV} {vs : List Value}, RepEs w N φ sz ds vs → RepEs w N φ sz (ds.drop i) (vs.drop (i * sz))
  | 0, ds, vs, h => by simpa using h
  | i + 1, [], vs, h => by unfold RepEs at h; subst h; simp [RepEs]
  | i + 1, d :: ds, vs, h => by
    unfold RepEs at h
    obtain ⟨x, r, rfl, h2, h3, h4, h5, h6⟩ := h
    have : (i + 1) * sz = x.cells.toList.length + i * sz := by rw [Array.length_toList, h2, Nat.add_mul]; omega
    rw [this, drop_len]
    exact RepEs.drop i h6
theorem RepEs.take {sz : Nat} : ∀ (i : Nat) {ds : List DV} {vs : List Value}, RepEs w N φ sz ds vs → RepEs w N φ sz (ds.take i) (vs.take (i * sz))
  | 0, ds, vs, h => by simp [RepEs]
  | i + 1, [], vs, h => by unfold RepEs at h; subst h; simp [RepEs]
  | i + 1, d :: ds, vs, h => by
    unfold RepEs at h
    obtain ⟨x, r, rfl, h2, h3, h4, h5, h6⟩ := h
    have : (i + 1) * sz = x.cells.toList.length + i * sz := by rw [Array.length_toList, h2, Nat.add_mul]; omega
    rw [this, List.take_append]
    simp only [List.take_succ_cons]
    unfold RepEs
    refine ⟨x, r.take (i * sz), ?_, h2, h3, h4, h5, RepEs.take i h6⟩
    rw [List.take_of_length_le (by omega), Nat.add_sub_cancel_left]
theorem RepEs.one {sz : Nat} {d : DV} {v : Value} (h : Rep w N φ d v) (hs : d.storable = true) (hz : v.cells.size = sz) : RepEs w N φ sz [d] v.cells.toList := by
  unfold RepEs
  exact ⟨v, [], by simp, hz, hs, (h.cells hs).2, h, by unfold RepEs; rfl⟩
end
mutual
theorem Rep.imm {w : World} {N : Nat → Prop} {φ φ' : Phi} : ∀ {d : DV} {v : Value}, d.imm = true → Rep w N φ d v → Rep w N φ' d v
  | .undef, v, _, h => by unfold Rep at h ⊢; exact h
  | .dead, v, i, h => by unfold Rep at h ⊢; exact h
  | .bool b, v, _, h => by unfold Rep at h ⊢; exact h
  | .int k n, v, _, h => by unfold Rep at h ⊢; exact h
  | .str s, v, _, h => by unfold Rep at h ⊢; exact h
  | .nilp, v, _, h => by unfold Rep at h ⊢; exact h
  | .ptr id ix off, v, i, h => absurd i (by simp [DV.imm])
  | .iptr e off, v, _, h => by
    unfold Rep at h ⊢
    obtain ⟨hi, hst, b, o, x, h1, hb, h2, h3, h4, h5⟩ := h
    exact ⟨hi, hst, b, o, x, h1, hb, h2, Rep.imm hi h3, h4, h5⟩
  | .list es t, v, _, h => by
    unfold Rep at h ⊢
    obtain ⟨hi, A, c, h1, h2, h3, h4⟩ := h
    refine ⟨hi, A, c, h1, h2, h3, ?_⟩
    rcases h4 with h4 | ⟨b, o, sz, vs, h5, hb, h6, h7, h8⟩
    · exact .inl h4
    · exact .inr ⟨b, o, sz, vs, h5, hb, h6, RepEs.imm hi h7, h8⟩
  | .ref id off len cap, v, i, h => absurd i (by simp [DV.imm])
  | .agg cs, v, i, h => by
    unfold Rep at h ⊢
    obtain ⟨vs, h1, h2, h3⟩ := h
    exact ⟨vs, h1, RepL.imm (by simpa [DV.imm] using i) h2, h3⟩
  | .tuple cs, v, i, h => by
    unfold Rep at h ⊢
    obtain ⟨vs, h1, h2⟩ := h
    exact ⟨vs, h1, RepL.imm (by simpa [DV.imm] using i) h2⟩
  | .func f cs, v, i, h => by
    unfold Rep at h ⊢
    obtain ⟨vs, h1, h2⟩ := h
    exact ⟨vs, h1, RepL.imm (by simpa [DV.imm] using i) h2⟩
  | .nilf, v, _, h => by unfold Rep at h ⊢; exact h
  | .iface t d, v, i, h => by
    unfold Rep at h ⊢
    obtain ⟨x, h1, h2⟩ := h
    exact ⟨x, h1, Rep.imm (by simpa [DV.imm] using i) h2⟩
  | .nili, v, _, h => by unfold Rep at h ⊢; exact h
theorem RepL.imm {w : World} {N : Nat → Prop} {φ φ' : Phi} : ∀ {d : List DV} {v : List Value}, DV.imms d = true → RepL w N φ d v → RepL w N φ' d v
  | [], v, _, h => by unfold RepL at h ⊢; exact h
  | d :: ds, v, i, h => by
    unfold RepL at h ⊢
    obtain ⟨x, r, h1, h2, h3⟩ := h
    simp only [DV.imms, Bool.and_eq_true] at i
    exact ⟨x, r, h1, Rep.imm i.1 h2, RepL.imm i.2 h3⟩
theorem RepEs.imm {w : World} {N : Nat → Prop} {φ φ' : Phi} {sz : Nat} : ∀ {d : List DV} {v : List Value}, DV.imms d = true → RepEs w N φ sz d v → RepEs w N φ' sz d v
  | [], v, _, h => by unfold RepEs at h ⊢; exact h
  | d :: ds, v, i, h => by
    unfold RepEs at h ⊢
    obtain ⟨x, r, h1, h2, h3, h4, h5, h6⟩ := h
    simp only [DV.imms, Bool.and_eq_true] at i
    exact ⟨x, r, h1, h2, h3, h4, Rep.imm i.1 h5, RepEs.imm i.2 h6⟩
end
theorem imms_mem : ∀ {ds : List DV} {d : DV}, DV.imms ds = true → d ∈ ds → d.imm = true
  | [], d, _, h => absurd h (by simp)
  | e :: ds, d, i, h => by
    simp only [DV.imms, Bool.and_eq_true] at i
    rcases List.mem_cons.1 h with h | h
    · subst h; exact i.1
    · exact imms_mem i.2 h
theorem imms_of : ∀ {ds : List DV}, (∀ d ∈ ds, d.imm = true) → DV.imms ds = true
  | [], _ => rfl
  | e :: ds, h => by
    simp only [DV.imms, Bool.and_eq_true]
    exact ⟨h e List.mem_cons_self, imms_of fun d hd => h d (List.mem_cons_of_mem _ hd)⟩
theorem imms_append {a b : List DV} (h : DV.imms a = true) (k : DV.imms b = true) : DV.imms (a ++ b) = true :=
  imms_of fun d hd => (List.mem_append.1 hd).elim (imms_mem h) (imms_mem k)
theorem imms_take {a : List DV} (h : DV.imms a = true) (n : Nat) : DV.imms (a.take n) = true := imms_of fun d hd => imms_mem h (List.mem_of_mem_take hd)
theorem imms_drop {a : List DV} (h : DV.imms a = true) (n : Nat) : DV.imms (a.drop n) = true := imms_of fun d hd => imms_mem h (List.mem_of_mem_drop hd)
def Blk.fz : Blk → Bool
  | .row r => r.fz
  | .siter .. => false
def Own (φ : Phi) (H : Heap) (b : Nat) : Prop := ∃ id pb blk, φ id = some (some pb) ∧ H id = some blk ∧ blk.fz = false ∧ pb.b = b
def Nn (N0 : Nat → Prop) (φ : Phi) (H : Heap) (b : Nat) : Prop := N0 b ∨ Own φ H b
def BlkRep (w : World) (N : Nat → Prop) (φ : Phi) : Blk → PB → Prop
  | .row r, pb => ∃ cur vs rest, w.heap[pb.b]? = some (.cells cur r.elem (0, 0)) ∧ cur.size = pb.ext ∧ pb.sz = r.sz ∧ (∀ e, r.ext = some e → pb.ext = e * r.sz) ∧
      RepEs w N φ r.sz r.elems vs ∧ cur.toList = vs ++ rest ∧ (r.leaf = true → DV.imms r.elems = true) ∧ (r.fz = true → r.leaf = true)
  | .siter s pos, pb => ∃ t, w.heap[pb.b]? = some (.stringIter t pos) ∧ t.data.toList.drop pos = s ∧ pos ≤ t.size
structure HeapRel (w : World) (N0 : Nat → Prop) (φ : Phi) (H : Heap) : Prop where
  gone : ∀ id, H id = none → φ id = none ∨ φ id = some none
  here : ∀ id blk, H id = some blk → ∃ pb, φ id = some (some pb) ∧ BlkRep w (Nn N0 φ H) φ blk pb
  apart : ∀ id id' pb pb', φ id = some (some pb) → φ id' = some (some pb') → id ≠ id' → pb.b ≠ pb'.b
  out : ∀ id pb, φ id = some (some pb) → ¬ N0 pb.b
  lim : ∀ b, N0 b → b < w.heap.size
structure Step (N0 : Nat → Prop) (w : World) (φ : Phi) (H : Heap) (w' : World) (φ' : Phi) (H' : Heap) : Prop where
  os : w'.os = w.os
  tape : w'.tape = w.tape
  output : w'.output = w.output
  size : w.heap.size ≤ w'.heap.size
  same : ∀ b, b < w.heap.size → ¬ Own φ H b → w'.heap[b]? = w.heap[b]?
  own : ∀ b, b < w.heap.size → Own φ' H' b → Own φ H b
  keep : ∀ id q, φ id = some q → φ' id = some q ∨ φ' id = some none
  old : ∀ id pb, φ' id = some (some pb) → pb.b < w.heap.size → ∃ id0 pb0, φ id0 = some (some pb0) ∧ pb0.b = pb.b
  rel : HeapRel w' N0 φ' H'
theorem Step.refl {N0 : Nat → Prop} {w : World} {φ : Phi} {H : Heap} (h : HeapRel w N0 φ H) : Step N0 w φ H w φ H :=
  ⟨rfl, rfl, rfl, Nat.le_refl _, fun _ _ _ => rfl, fun _ _ h => h, fun _ _ h => .inl h, fun id pb h _ => ⟨id, pb, h, rfl⟩, h⟩
theorem Step.later {N0 : Nat → Prop} {w w' : World} {φ φ' : Phi} {H H' : Heap} (h : Step N0 w φ H w' φ' H') : Later w (Nn N0 φ H) φ w' (Nn N0 φ' H') φ' :=
  ⟨h.size, fun b hb hn => h.same b hb fun o => hn (.inr o), fun b hb hn => hn.imp id (h.own b hb), h.keep⟩
theorem Step.trans {N0 : Nat → Prop} {w w' w'' : World} {φ φ' φ'' : Phi} {H H' H'' : Heap} (h : Step N0 w φ H w' φ' H') (k : Step N0 w' φ' H' w'' φ'' H'') : Step N0 w φ H w'' φ'' H'' := by
  refine ⟨k.os.trans h.os, k.tape.trans h.tape, k.output.trans h.output, Nat.le_trans h.size k.size, fun b hb hn => ?_, fun b hb ho => h.own b hb (k.own b (Nat.lt_of_lt_of_le hb h.size) ho), fun id q hq => ?_, fun id pb hp hb => ?_, k.rel⟩
  · exact (k.same b (Nat.lt_of_lt_of_le hb h.size) fun o => hn (h.own b hb o)).trans (h.same b hb hn)
  · rcases h.keep id q hq with h1 | h1
    · exact k.keep id q h1
    · exact (k.keep id none h1).elim .inr .inr
  · obtain ⟨i1, p1, h1, h2⟩ := k.old id pb hp (Nat.lt_of_lt_of_le hb h.size)
    obtain ⟨i0, p0, h3, h4⟩ := h.old i1 p1 h1 (by rw [h2]; exact hb)
    exact ⟨i0, p0, h3, h4.trans h2⟩
theorem HeapRel.live {w : World} {N0 : Nat → Prop} {φ : Phi} {H : Heap} (h : HeapRel w N0 φ H) {id : Nat} {pb : PB} (hp : φ id = some (some pb)) : ∃ blk, H id = some blk := by
  cases hh : H id with
  | some b => exact ⟨b, rfl⟩
  | none => rcases h.gone id hh with h1 | h1 <;> rw [hp] at h1 <;> exact absurd h1 (by simp)
theorem BlkRep.later {w w' : World} {N N' : Nat → Prop} {φ φ' : Phi} (L : Later w N φ w' N' φ') {blk : Blk} {pb : PB} (hb : w'.heap[pb.b]? = w.heap[pb.b]?) (h : BlkRep w N φ blk pb) : BlkRep w' N' φ' blk pb := by
  cases blk with
  | row r =>
    obtain ⟨cur, vs, rest, h1, h2, h3, h4, h5, h6, h7, h8⟩ := h
    exact ⟨cur, vs, rest, hb.trans h1, h2, h3, h4, RepEs.later L h5, h6, h7, h8⟩
  | siter s pos =>
    obtain ⟨t, h1, h2⟩ := h
    exact ⟨t, hb.trans h1, h2⟩
theorem BlkRep.lt {w : World} {N : Nat → Prop} {φ : Phi} {blk : Blk} {pb : PB} (h : BlkRep w N φ blk pb) : pb.b < w.heap.size := by
  cases blk with
  | row r =>
    obtain ⟨cur, vs, rest, h1, _⟩ := h
    exact (Array.getElem?_eq_some_iff.1 h1).1
  | siter s pos =>
    obtain ⟨t, h1, _⟩ := h
    exact (Array.getElem?_eq_some_iff.1 h1).1
end Go.PM
end
section
namespace Go.PM
open Go
set_option linter.unusedVariables false
theorem Step.gen {N0 : Nat → Prop} {w w' : World} {φ φ' : Phi} {H H' : Heap} (h : HeapRel w N0 φ H) (T : Nat → Prop)
    (hos : w'.os = w.os) (htape : w'.tape = w.tape) (hout : w'.output = w.output) (hsize : w.heap.size ≤ w'.heap.size)
    (hsame : ∀ b, b < w.heap.size → ¬ Own φ H b → w'.heap[b]? = w.heap[b]?)
    (huntouched : ∀ id, ¬ T id → φ' id = φ id ∧ H' id = H id)
    (hkeep : ∀ id q, φ id = some q → φ' id = some q ∨ φ' id = some none)
    (hblocks : ∀ id, ¬ T id → ∀ pb, φ id = some (some pb) → w'.heap[pb.b]? = w.heap[pb.b]?)
    (hown : ∀ id, T id → ∀ pb blk, φ' id = some (some pb) → H' id = some blk → blk.fz = false → pb.b < w.heap.size → Own φ H pb.b)
    (hgone : ∀ id, T id → H' id = none → φ' id = none ∨ φ' id = some none)
    (hhere : Later w (Nn N0 φ H) φ w' (Nn N0 φ' H') φ' → ∀ id, T id → ∀ blk, H' id = some blk → ∃ pb, φ' id = some (some pb) ∧ BlkRep w' (Nn N0 φ' H') φ' blk pb)
    (hapart : ∀ id, T id → ∀ id' pb pb', φ' id = some (some pb) → φ' id' = some (some pb') → id ≠ id' → pb.b ≠ pb'.b)
    (hN : ∀ id, T id → ∀ pb, φ' id = some (some pb) → ¬ N0 pb.b)
    (hold : ∀ id, T id → ∀ pb, φ' id = some (some pb) → pb.b < w.heap.size → ∃ id0 pb0, φ id0 = some (some pb0) ∧ pb0.b = pb.b) : Step N0 w φ H w' φ' H' := by
  have own : ∀ b, b < w.heap.size → Own φ' H' b → Own φ H b := by
    rintro b hb ⟨id, pb, blk, h1, h2, h3, rfl⟩
    by_cases ht : T id
    · exact hown id ht pb blk h1 h2 h3 hb
    · obtain ⟨h4, h5⟩ := huntouched id ht
      exact ⟨id, pb, blk, h4 ▸ h1, h5 ▸ h2, h3, rfl⟩
  have L : Later w (Nn N0 φ H) φ w' (Nn N0 φ' H') φ' := ⟨hsize, fun b hb hn => hsame b hb fun o => hn (.inr o), fun b hb hn => hn.imp id (own b hb), hkeep⟩
  refine ⟨hos, htape, hout, hsize, hsame, own, hkeep, fun id pb hp hb => ?_, ⟨fun id hid => ?_, fun id blk hid => ?_, fun id id' pb pb' h1 h2 hne => ?_, fun id pb hp => ?_, fun b hb => Nat.lt_of_lt_of_le (h.lim b hb) hsize⟩⟩
  · by_cases ht : T id
    · exact hold id ht pb hp hb
    · exact ⟨id, pb, (huntouched id ht).1 ▸ hp, rfl⟩
  · by_cases ht : T id
    · exact hgone id ht hid
    · obtain ⟨h4, h5⟩ := huntouched id ht
      rw [h4]
      exact h.gone id (h5 ▸ hid)
  · by_cases ht : T id
    · exact hhere L id ht blk hid
    · obtain ⟨h4, h5⟩ := huntouched id ht
      obtain ⟨pb, h6, h7⟩ := h.here id blk (h5 ▸ hid)
      exact ⟨pb, h4.trans h6, h7.later L (hblocks id ht pb h6)⟩
  · by_cases ht : T id
    · exact hapart id ht id' pb pb' h1 h2 hne
    · by_cases ht' : T id'
      · exact fun e => hapart id' ht' id pb' pb h2 h1 (Ne.symm hne) e.symm
      · exact h.apart id id' pb pb' ((huntouched id ht).1 ▸ h1) ((huntouched id' ht').1 ▸ h2) hne
  · by_cases ht : T id
    · exact hN id ht pb hp
    · exact h.out id pb ((huntouched id ht).1 ▸ hp)
theorem HeapRel.lt {w : World} {N0 : Nat → Prop} {φ : Phi} {H : Heap} (h : HeapRel w N0 φ H) {id : Nat} {pb : PB} (hp : φ id = some (some pb)) : pb.b < w.heap.size := by
  obtain ⟨blk, hb⟩ := h.live hp
  obtain ⟨pb', h1, h2⟩ := h.here id blk hb
  rw [hp] at h1
  simp only [Option.some.injEq] at h1
  subst h1
  exact h2.lt
theorem Step.new {N0 : Nat → Prop} {w w' : World} {φ : Phi} {H : Heap} (h : HeapRel w N0 φ H) {slot : Nat} (hs : φ slot = none) {o : Obj} (blk : Blk) (pb : PB) (hp : pb.b = w.heap.size)
    (hos : w'.os = w.os) (htape : w'.tape = w.tape) (hout : w'.output = w.output) (hheap : w'.heap = w.heap.push o)
    (hb : ∀ φ' H', Later w (Nn N0 φ H) φ w' (Nn N0 φ' H') φ' → BlkRep w' (Nn N0 φ' H') φ' blk pb) :
    Step N0 w φ H w' (fun i => if i = slot then some (some pb) else φ i) (H.put [(slot, some blk)]) := by
  have hsz : w'.heap.size = w.heap.size + 1 := by rw [hheap]; simp
  have hold : ∀ b, b < w.heap.size → w'.heap[b]? = w.heap[b]? := fun b hb => by rw [hheap, Array.getElem?_push, if_neg (by omega)]
  refine Step.gen h (fun i => i = slot) hos htape hout (by omega) (fun b hb _ => hold b hb) (fun id ht => ⟨if_neg ht, if_neg ht⟩) (fun id q hq => ?_) (fun id ht pb' hp' => hold _ (h.lt hp')) ?_ ?_ (fun L => ?_) ?_ ?_ ?_
  · by_cases hi : id = slot
    · subst hi; rw [hs] at hq; exact absurd hq (by simp)
    · exact .inl (by simpa [hi] using hq)
  · rintro id rfl pb' blk' h1 h2 h3 h4
    simp only [if_true, Option.some.injEq] at h1
    subst h1
    omega
  · rintro id rfl h1
    simp [Heap.put] at h1
  · rintro id rfl blk' h1
    simp only [Heap.put, if_true, Option.some.injEq] at h1
    subst h1
    exact ⟨pb, by simp, hb _ _ L⟩
  · rintro id rfl id' pb' pb'' h1 h2 hne
    simp only [if_true, Option.some.injEq] at h1
    subst h1
    rw [if_neg (Ne.symm hne)] at h2
    have := h.lt h2
    omega
  · rintro id rfl pb' h1 h2
    simp only [if_true, Option.some.injEq] at h1
    subst h1
    have := h.lim _ h2
    omega
  · rintro id rfl pb' h1 h2
    simp only [if_true, Option.some.injEq] at h1
    subst h1
    omega
theorem Step.write {N0 : Nat → Prop} {w w' : World} {φ : Phi} {H : Heap} (h : HeapRel w N0 φ H) {id : Nat} {pb : PB} (hφ : φ id = some (some pb)) {blk : Blk} (hH : H id = some blk) (hfz : blk.fz = false) (blk' : Blk)
    (hos : w'.os = w.os) (htape : w'.tape = w.tape) (hout : w'.output = w.output) (hsize : w'.heap.size = w.heap.size) (hheap : ∀ b, b ≠ pb.b → w'.heap[b]? = w.heap[b]?)
    (hb : ∀ φ' H', Later w (Nn N0 φ H) φ w' (Nn N0 φ' H') φ' → BlkRep w' (Nn N0 φ' H') φ' blk' pb) :
    Step N0 w φ H w' φ (H.put [(id, some blk')]) := by
  have ho : Own φ H pb.b := ⟨id, pb, blk, hφ, hH, hfz, rfl⟩
  refine Step.gen h (fun i => i = id) hos htape hout (by omega) (fun b hb hn => hheap b fun e => hn (e ▸ ho)) (fun i ht => ⟨rfl, if_neg ht⟩) (fun i q hq => .inl hq) (fun i ht pb' hp' => hheap _ (h.apart i id pb' pb hp' hφ ht)) ?_ ?_ (fun L => ?_) ?_ ?_ (fun i _ q hq _ => ⟨i, q, hq, rfl⟩)
  · rintro i rfl pb' blk' h1 h2 h3 h4
    rw [hφ] at h1
    simp only [Option.some.injEq] at h1
    subst h1
    exact ho
  · rintro i rfl h1
    simp [Heap.put] at h1
  · rintro i rfl b h1
    simp only [Heap.put, if_true, Option.some.injEq] at h1
    subst h1
    exact ⟨pb, hφ, hb _ _ L⟩
  · rintro i rfl id' pb' pb'' h1 h2 hne
    exact h.apart _ _ _ _ h1 h2 hne
  · rintro i rfl pb' h1
    exact h.out _ _ h1
theorem Step.move {N0 : Nat → Prop} {w w' : World} {φ : Phi} {H : Heap} (h : HeapRel w N0 φ H) {slot : Nat} (hs : φ slot = none) {id : Nat} {pb : PB} (hφ : φ id = some (some pb)) {blk : Blk} (hH : H id = some blk) (hfz : blk.fz = false) (blk' : Blk) (pb' : PB)
    (hos : w'.os = w.os) (htape : w'.tape = w.tape) (hout : w'.output = w.output) (hsize : w.heap.size ≤ w'.heap.size) (hheap : ∀ b, b < w.heap.size → b ≠ pb.b → w'.heap[b]? = w.heap[b]?) (hp : pb'.b = pb.b ∨ w.heap.size ≤ pb'.b)
    (hb : ∀ φ' H', Later w (Nn N0 φ H) φ w' (Nn N0 φ' H') φ' → BlkRep w' (Nn N0 φ' H') φ' blk' pb') :
    Step N0 w φ H w' (fun i => if i = slot then some (some pb') else if i = id then some none else φ i) (H.put [(id, none), (slot, some blk')]) := by
  have ho : Own φ H pb.b := ⟨id, pb, blk, hφ, hH, hfz, rfl⟩
  have hne : id ≠ slot := fun e => by subst e; rw [hs] at hφ; exact absurd hφ (by simp)
  refine Step.gen h (fun i => i = id ∨ i = slot) hos htape hout hsize (fun b hb hn => hheap b hb fun e => hn (e ▸ ho)) (fun i ht => ?_) (fun i q hq => ?_) (fun i ht q hq => hheap _ (h.lt hq) (h.apart i id q pb hq hφ fun e => ht (.inl e))) ?_ ?_ (fun L => ?_) ?_ ?_ ?_
  · have h1 : i ≠ id := fun e => ht (.inl e)
    have h2 : i ≠ slot := fun e => ht (.inr e)
    simp [Heap.put, h1, h2]
  · by_cases h2 : i = slot
    · subst h2; rw [hs] at hq; exact absurd hq (by simp)
    · by_cases h1 : i = id
      · exact .inr (by simp [h1, hne])
      · exact .inl (by simpa [h1, h2] using hq)
  · rintro i ht q b h1 h2 h3 h4
    by_cases h5 : i = slot
    · simp only [h5, if_true, Option.some.injEq] at h1
      subst h1
      rcases hp with hp | hp
      · exact hp ▸ ho
      · omega
    · have h6 := ht.resolve_right h5
      subst h6
      simp [hne] at h1
  · rintro i ht h1
    by_cases h5 : i = slot
    · simp [Heap.put, h5] at h1
    · have h6 := ht.resolve_right h5
      subst h6
      exact .inr (by simp [hne])
  · rintro i ht b h1
    by_cases h5 : i = slot
    · subst h5
      simp only [Heap.put, if_true, Option.some.injEq] at h1
      subst h1
      exact ⟨pb', by simp, hb _ _ L⟩
    · simp [Heap.put, ht.resolve_right h5, hne] at h1
  · rintro i ht i' q q' h1 h2 hii
    by_cases h5 : i = slot
    · simp only [h5, if_true, Option.some.injEq] at h1
      subst h1
      rw [if_neg fun e => hii (h5.trans e.symm)] at h2
      by_cases h6 : i' = id
      · simp [h6] at h2
      · rw [if_neg h6] at h2
        rcases hp with hp | hp
        · exact fun e => h.apart i' id q' pb h2 hφ h6 (e.symm.trans hp)
        · have := h.lt h2; omega
    · simp [ht.resolve_right h5, hne] at h1
  · rintro i ht q h1
    by_cases h5 : i = slot
    · simp only [h5, if_true, Option.some.injEq] at h1
      subst h1
      rcases hp with hp | hp
      · rw [hp]; exact h.out _ _ hφ
      · exact fun hn => absurd (h.lim _ hn) (by omega)
    · simp [ht.resolve_right h5, hne] at h1
  · rintro i ht q h1 h2
    by_cases h5 : i = slot
    · simp only [h5, if_true, Option.some.injEq] at h1
      subst h1
      rcases hp with hp | hp
      · exact ⟨id, pb, hφ, hp.symm⟩
      · omega
    · simp [ht.resolve_right h5, hne] at h1
theorem Step.freeze {N0 : Nat → Prop} {w : World} {φ : Phi} {H : Heap} (h : HeapRel w N0 φ H) {id : Nat} {r : Row} (hH : H id = some (.row r)) (hl : DV.imms r.elems = true) :
    Step N0 w φ H w φ (H.put [(id, some (.row { r with fz := true, leaf := true }))]) := by
  obtain ⟨pb, hφ, hr⟩ := h.here id _ hH
  refine Step.gen h (fun i => i = id) rfl rfl rfl (Nat.le_refl _) (fun b hb hn => rfl) (fun i ht => ⟨rfl, if_neg ht⟩) (fun i q hq => .inl hq) (fun i ht pb' hp' => rfl) ?_ ?_ (fun L => ?_) ?_ ?_ (fun i _ q hq _ => ⟨i, q, hq, rfl⟩)
  · rintro i rfl pb' blk' h1 h2 h3 h4
    simp only [Heap.put, if_true, Option.some.injEq] at h2
    subst h2
    exact absurd h3 (by simp [Blk.fz])
  · rintro i rfl h1
    simp [Heap.put] at h1
  · rintro i rfl b h1
    simp only [Heap.put, if_true, Option.some.injEq] at h1
    subst h1
    refine ⟨pb, hφ, ?_⟩
    obtain ⟨cur, vs, rest, h1, h2, h3, h4, h5, h6, h7, h8⟩ := hr.later L rfl
    have _ := h7
    exact ⟨cur, vs, rest, h1, h2, h3, h4, h5, h6, fun _ => hl, fun _ => rfl⟩
  · rintro i rfl id' pb' pb'' h1 h2 hne
    exact h.apart _ _ _ _ h1 h2 hne
  · rintro i rfl pb' h1
    exact h.out _ _ h1
end Go.PM
end
section
namespace Go.PM
open Go
set_option linter.unusedVariables false
def Gives (C : Cfg) (N0 : Nat → Prop) (slot : Nat) (a : Act) (w : World) (φ : Phi) (H : Heap) (o : Oper) (v : DV) (e : Eff) : Prop :=
  ∃ x w' φ', ((execOp a.eval o).run C.P w = .ok (.value x) w' ∨ ((execOp a.eval o).run C.P w = .ok .skip w' ∧ x = Go.undef)) ∧ Step N0 w φ H w' φ' (H.put e) ∧
    Rep w' (Nn N0 φ' (H.put e)) φ' v x ∧ ∀ id, φ id = none → ¬ (slot ≤ id ∧ id < slot + wide) → φ' id = none
section
variable {C : Cfg} {N0 : Nat → Prop} {slot : Nat} {a : Act} {w : World} {φ : Phi} {H : Heap} {o : Oper}
theorem gives_val (hrel : HeapRel w N0 φ H) {v : DV} {x : Value} (hr : (execOp a.eval o).run C.P w = .ok (.value x) w) (hx : Rep w (Nn N0 φ H) φ v x) : Gives C N0 slot a w φ H o v [] :=
  ⟨x, w, φ, .inl hr, Step.refl hrel, hx, fun _ h _ => h⟩
theorem val_some {v : Option DV} {d : DV} {e : Eff} (h : val v = some (d, e)) : v = some d ∧ e = [] := by
  unfold val at h
  cases v with
  | none => exact absurd h (by simp)
  | some u => simp at h; exact ⟨by rw [h.1], h.2⟩
mutual
theorem rep_const {N : Nat → Prop} : ∀ (v : Value) (d : DV), ofConst v = some d → Rep w N φ d v ∧ d.imm = true ∧ d.storable = true
  | .bool b, d, h => by simp only [ofConst, Option.some.injEq] at h; subst h; exact ⟨by unfold Rep; rfl, rfl, rfl⟩
  | .int k n, d, h => by simp only [ofConst, Option.some.injEq] at h; subst h; exact ⟨by unfold Rep; rfl, rfl, rfl⟩
  | .string s, d, h => by simp only [ofConst, Option.some.injEq] at h; subst h; exact ⟨by unfold Rep; exact ⟨s, rfl, rfl⟩, rfl, rfl⟩
  | .pointer none, d, h => by simp only [ofConst, Option.some.injEq] at h; subst h; exact ⟨by unfold Rep; rfl, rfl, rfl⟩
  | .pointer (some _), d, h => absurd h (by simp [ofConst])
  | .slice none 0 0, d, h => by
    simp only [ofConst, Option.some.injEq] at h; subst h
    exact ⟨by unfold Rep; exact ⟨rfl, none, 0, rfl, fun _ => rfl, Nat.le_refl _, .inl rfl⟩, rfl, rfl⟩
  | .slice none 0 (_ + 1), d, h => absurd h (by simp [ofConst])
  | .slice none (_ + 1) _, d, h => absurd h (by simp [ofConst])
  | .slice (some _) _ _, d, h => absurd h (by simp [ofConst])
  | .nilFunc, d, h => by simp only [ofConst, Option.some.injEq] at h; subst h; exact ⟨by unfold Rep; rfl, rfl, rfl⟩
  | .nilIface, d, h => by simp only [ofConst, Option.some.injEq] at h; subst h; exact ⟨by unfold Rep; rfl, rfl, rfl⟩
  | .agg ⟨l⟩, d, h => by
    simp only [ofConst, ofConstA] at h
    obtain ⟨ds, h1, rfl⟩ := Option.map_eq_some_iff.1 h
    obtain ⟨h2, h3, h4⟩ := rep_constL l ds h1
    exact ⟨by unfold Rep; exact ⟨⟨l⟩, rfl, h2, h4⟩, by simpa [DV.imm] using h3, rfl⟩
  | .iface t v, d, h => by
    simp only [ofConst] at h
    obtain ⟨e, h1, rfl⟩ := Option.map_eq_some_iff.1 h
    obtain ⟨h2, h3, _⟩ := rep_const v e h1
    exact ⟨by unfold Rep; exact ⟨v, rfl, h2⟩, by simpa [DV.imm] using h3, rfl⟩
  | .func (.func f) first cap, d, h => by
    simp only [ofConst] at h
    split at h
    · rename_i hc
      simp only [Bool.and_eq_true, decide_eq_true_eq, Array.size_eq_zero_iff] at hc
      obtain ⟨rfl, rfl⟩ := hc
      simp only [Option.some.injEq] at h; subst h
      exact ⟨by unfold Rep; exact ⟨#[], rfl, by unfold RepL; rfl⟩, rfl, rfl⟩
    · exact absurd h (by simp)
  | .func (.method _) _ _, d, h => absurd h (by simp [ofConst])
  | .func (.methodOf _ _) _ _, d, h => absurd h (by simp [ofConst])
  | .func (.via _ _ _ _) _ _, d, h => absurd h (by simp [ofConst])
  | .func (.yield _) _ _, d, h => absurd h (by simp [ofConst])
  | .float _ _, d, h => absurd h (by simp [ofConst])
  | .complex _ _ _, d, h => absurd h (by simp [ofConst])
  | .map _, d, h => absurd h (by simp [ofConst])
  | .chan _, d, h => absurd h (by simp [ofConst])
  | .tuple _, d, h => absurd h (by simp [ofConst])
theorem rep_constL {N : Nat → Prop} : ∀ (l : List Value) (ds : List DV), ofConstL l = some ds → RepL w N φ ds l ∧ DV.imms ds = true ∧ One l
  | [], ds, h => by simp only [ofConstL, Option.some.injEq] at h; subst h; exact ⟨by unfold RepL; rfl, rfl, fun u hu => absurd hu (by simp)⟩
  | v :: r, ds, h => by
    simp only [ofConstL] at h
    split at h
    · rename_i d e h0 h1 h2
      simp only [Option.some.injEq] at h; subst h
      obtain ⟨h3, h4, _⟩ := rep_const v d h1
      obtain ⟨h5, h6, h7⟩ := rep_constL r e h2
      refine ⟨by unfold RepL; exact ⟨v, r, rfl, h3, h5⟩, by simp [DV.imms, h4, h6], fun u hu => ?_⟩
      rcases List.mem_cons.1 hu with hu | hu
      · subst hu
        exact h0
      · exact h7 u hu
    · exact absurd h (by simp)
end
def EvRel (ev : Operand → Option DV) (a : Act) (w : World) (N : Nat → Prop) (φ : Phi) : Prop := ∀ x d, ev x = some d → Rep w N φ d (a.eval x)
theorem part_rep {N : Nat → Prop} {t : TypeId} {cs : List DV} {vs : List Value} {off : Nat} {d : DV} (hc : RepL w N φ cs vs) (ho : One vs) (h : C.part t cs off = some d) :
    ∃ x, Rep w N φ d x ∧ (part t vs.toArray off).run C.P w = .ok x w ∧
      ∃ i dd, C.P.info? t = some i ∧ C.P.underlying t = some dd ∧ ((C.isAgg t = some true ∧ x = .agg ((vs.drop off).take i.size).toArray ∧ off + i.size ≤ vs.length) ∨ (C.isAgg t = some false ∧ vs[off]? = some x)) := by
  unfold Cfg.part at h
  have hl := hc.len
  split at h
  · rename_i n ha hn
    unfold Cfg.size at hn
    obtain ⟨i, hi, rfl⟩ := Option.map_eq_some_iff.1 hn
    split at h
    · rename_i hle
      simp only [Option.some.injEq] at h; subst h
      have hag := ha
      unfold Cfg.isAgg at ha
      split at ha
      · rename_i fs hu
        refine ⟨.agg ((vs.drop off).take i.size).toArray, ?_, ?_, i, _, hi, hu, .inl ⟨hag, rfl, by omega⟩⟩
        · unfold Rep; exact ⟨_, rfl, (hc.drop off).take _, (ho.drop off).take _⟩
        · simp only [part, isAgg, Sem.run_bind, run_underlying hu, Result.andThen_ok, sizeOf, typeInfo, run_program, hi, Sem.run_pure, if_true, Result.andThen_ok]
          congr 2
          simp [List.extract_toArray, List.extract_eq_take_drop]
      · rename_i fs e hu
        refine ⟨.agg ((vs.drop off).take i.size).toArray, ?_, ?_, i, _, hi, hu, .inl ⟨hag, rfl, by omega⟩⟩
        · unfold Rep; exact ⟨_, rfl, (hc.drop off).take _, (ho.drop off).take _⟩
        · simp only [part, isAgg, Sem.run_bind, run_underlying hu, Result.andThen_ok, sizeOf, typeInfo, run_program, hi, Sem.run_pure, if_true, Result.andThen_ok]
          congr 2
          simp [List.extract_toArray, List.extract_eq_take_drop]
      · exact absurd ha (by simp)
      · exact absurd ha (by simp)
    · exact absurd h (by simp)
  · rename_i n ha hn
    unfold Cfg.size at hn
    obtain ⟨i, hi, rfl⟩ := Option.map_eq_some_iff.1 hn
    obtain ⟨x, hx, hr⟩ := hc.get off h
    have hag := ha
    unfold Cfg.isAgg at ha
    split at ha
    · exact absurd ha (by simp)
    · exact absurd ha (by simp)
    · rename_i dd h1 h2 hu
      refine ⟨x, hr, ?_, i, dd, hi, hu, .inr ⟨hag, hx⟩⟩
      have : (isAgg t).run C.P w = .ok false w := by
        simp only [isAgg, Sem.run_bind, run_underlying hu, Result.andThen_ok]
        cases dd <;> first | rfl | exact absurd hu (h1 _) | exact absurd hu (h2 _ _)
      simp only [part, Sem.run_bind, this, Result.andThen_ok]
      simp [hx]
    · exact absurd ha (by simp)
  · exact absurd h (by simp)
theorem load_rep {N : Nat → Prop} {t : TypeId} {cs : List DV} {vs : List Value} {b o off : Nat} {d : DV} (hc : RepL w N φ cs vs) (ho : One vs) (hm : CellsAt w b o vs) (h : C.part t cs off = some d) :
    ∃ x, Rep w N φ d x ∧ (Instr.loadAt t (.pointer (some ⟨b, o + off, none⟩))).run C.P w = .ok x w := by
  obtain ⟨x, h1, h2, i, dd, hi, hu, h3⟩ := part_rep hc ho h
  refine ⟨x, h1, ?_⟩
  rcases h3 with ⟨ha, rfl, hle⟩ | ⟨ha, hx⟩
  · have hag : (isAgg t).run C.P w = .ok true w := by
      unfold Cfg.isAgg at ha
      rw [hu] at ha
      simp only [isAgg, Sem.run_bind, run_underlying hu, Result.andThen_ok]
      cases dd <;> first | rfl | exact absurd ha (by simp)
    have hl : ((vs.drop off).take i.size).length = i.size := by simp; omega
    have := run_loadCells_list (P := C.P) w ⟨b, o + off, none⟩ ((vs.drop off).take i.size) (fun j v hj => by
      rw [Addr.add_lit]
      have hj' : vs[off + j]? = some v := by
        rw [List.getElem?_take] at hj
        split at hj
        · simpa using hj
        · exact absurd hj (by simp)
      have := hm (off + j) v hj'
      rw [Nat.add_assoc]
      exact this)
    rw [hl] at this
    simp only [Instr.loadAt, Instr.sureAddr, loadVar, Sem.run_bind, Sem.run_pure, Result.andThen_ok, hag, if_true, sizeOf, typeInfo, run_program, hi, this]
  · have hag : (isAgg t).run C.P w = .ok false w := by
      unfold Cfg.isAgg at ha
      rw [hu] at ha
      simp only [isAgg, Sem.run_bind, run_underlying hu, Result.andThen_ok]
      cases dd <;> first | rfl | exact absurd ha (by simp)
    have := hm off x hx
    simp only [Instr.loadAt, Instr.sureAddr, loadVar, Sem.run_bind, Sem.run_pure, Result.andThen_ok, hag, Bool.false_eq_true, if_false, run_load, this]
theorem HeapRel.row (hrel : HeapRel w N0 φ H) {id : Nat} {r : Row} (hr : H id = some (.row r)) : ∃ pb cur vs rest, φ id = some (some pb) ∧ w.heap[pb.b]? = some (.cells cur r.elem (0, 0)) ∧ cur.size = pb.ext ∧ pb.sz = r.sz ∧ (∀ e, r.ext = some e → pb.ext = e * r.sz) ∧
      RepEs w (Nn N0 φ H) φ r.sz r.elems vs ∧ cur.toList = vs ++ rest ∧ (r.leaf = true → DV.imms r.elems = true) ∧ (r.fz = true → r.leaf = true) ∧ CellsAt w pb.b 0 cur.toList := by
  obtain ⟨pb, h1, cur, vs, rest, h2, h3, h4, h5, h6, h7, h8, h9⟩ := hrel.here id _ hr
  refine ⟨pb, cur, vs, rest, h1, h2, h3, h4, h5, h6, h7, h8, h9, fun k x hk => ?_⟩
  rw [Nat.zero_add, cell_of_row w pb.b k cur r.elem (0, 0) h2]
  simpa using hk
theorem CellsAt.sub {b o : Nat} {vs us : List Value} {k : Nat} (h : CellsAt w b o vs) (hu : ∀ j x, us[j]? = some x → vs[k + j]? = some x) : CellsAt w b (o + k) us := fun j x hj => by
  have := h (k + j) x (hu j x hj)
  rwa [← Nat.add_assoc] at this
theorem rowAt_some {rd : Nat → Option Blk} {id : Nat} {r : Row} (h : rowAt rd id = some r) : rd id = some (.row r) := by
  unfold rowAt at h
  split at h
  · rename_i r' hr
    simp only [Option.some.injEq] at h; subst h; exact hr
  · exact absurd h (by simp)
theorem elem_cells {N : Nat → Prop} {sz : Nat} {ds : List DV} {vs rest : List Value} {b o ix : Nat} {e : DV} (hE : RepEs w N φ sz ds vs) (hm : CellsAt w b o (vs ++ rest)) (he : ds[ix]? = some e) :
    ∃ x, Rep w N φ e x ∧ e.storable = true ∧ x.cells.size = sz ∧ One x.cells.toList ∧ RepL w N φ e.cells x.cells.toList ∧ CellsAt w b (o + ix * sz) x.cells.toList := by
  obtain ⟨x, h1, h2, h3, h4, h5⟩ := hE.get ix he
  refine ⟨x, h1, h2, h3, h4, (h1.cells h2).1, hm.sub fun j y hj => ?_⟩
  rw [← h5, List.getElem?_take] at hj
  split at hj
  · rw [List.getElem?_drop] at hj
    rw [List.getElem?_append_left (List.getElem?_eq_some_iff.1 hj).1]
    exact hj
  · exact absurd hj (by simp)
theorem loadD_sound {rd : Nat → Option Blk} (hrel : HeapRel w N0 φ H) (hrd : ∀ id b, rd id = some b → H id = some b) {t : TypeId} {p d : DV} {v : Value} (hp : Rep w (Nn N0 φ H) φ p v) (h : C.loadD rd t p = some d) :
    ∃ x, Rep w (Nn N0 φ H) φ d x ∧ (Instr.loadAt t v).run C.P w = .ok x w := by
  unfold Cfg.loadD at h
  split at h
  · rename_i id ix off
    split at h
    · rename_i r hr
      split at h
      · rename_i e he
        obtain ⟨pb, cur, vs, rest, h1, h2, h3, h4, h5, h6, h7, h8, h9, h10⟩ := hrel.row (hrd _ _ (rowAt_some hr))
        unfold Rep at hp
        obtain ⟨_, q, hq, hv⟩ := hp
        rw [h1] at hq
        have hv := hv pb (by simpa using hq.symm)
        subst hv
        rw [h7] at h10
        obtain ⟨x, k1, k2, k3, k4, k5, k6⟩ := elem_cells h6 h10 he
        rw [Nat.zero_add, ← h4] at k6
        exact load_rep k5 k4 k6 h
      · exact absurd h (by simp)
    · exact absurd h (by simp)
  · rename_i e off
    unfold Rep at hp
    obtain ⟨hi, hs, b, o, x, rfl, hb, hn, h1, h2, h3⟩ := hp
    exact load_rep (h1.cells hs).1 h2 h3 h
  · exact absurd h (by simp)
theorem RepEs.split {N : Nat → Prop} {sz : Nat} : ∀ {ds : List DV} {vs : List Value} (i : Nat) {e : DV}, RepEs w N φ sz ds vs → ds[i]? = some e →
    ∃ A D x, vs = A ++ (x.cells.toList ++ D) ∧ A.length = i * sz ∧ Rep w N φ e x ∧ e.storable = true ∧ x.cells.size = sz ∧ One x.cells.toList ∧
      ∀ e' x', Rep w N φ e' x' → e'.storable = true → x'.cells.size = sz → RepEs w N φ sz (ds.set i e') (A ++ (x'.cells.toList ++ D))
  | [], vs, i, e, h, he => absurd he (by simp)
  | d :: ds, vs, 0, e, h, he => by
    unfold RepEs at h
    obtain ⟨x, r, rfl, h2, h3, h4, h5, h6⟩ := h
    simp only [List.getElem?_cons_zero, Option.some.injEq] at he
    subst he
    refine ⟨[], r, x, rfl, by simp, h5, h3, h2, h4, fun e' x' k1 k2 k3 => ?_⟩
    simp only [List.set_cons_zero, List.nil_append]
    unfold RepEs
    exact ⟨x', r, rfl, k3, k2, (k1.cells k2).2, k1, h6⟩
  | d :: ds, vs, i + 1, e, h, he => by
    unfold RepEs at h
    obtain ⟨x, r, rfl, h2, h3, h4, h5, h6⟩ := h
    simp only [List.getElem?_cons_succ] at he
    obtain ⟨A, D, y, rfl, k1, k2, k3, k4, k5, k6⟩ := RepEs.split i h6 he
    refine ⟨x.cells.toList ++ A, D, y, by rw [List.append_assoc], by rw [List.length_append, Array.length_toList, h2, k1, Nat.add_mul]; omega, k2, k3, k4, k5, fun e' x' m1 m2 m3 => ?_⟩
    simp only [List.set_cons_succ]
    unfold RepEs
    exact ⟨x, _, by rw [List.append_assoc], h2, h3, h4, h5, k6 e' x' m1 m2 m3⟩
theorem imms_set : ∀ {ds : List DV} (i : Nat) {e : DV}, DV.imms ds = true → e.imm = true → DV.imms (ds.set i e) = true := fun i e h he => imms_of fun d hd => by
  rcases List.mem_or_eq_of_mem_set hd with h1 | h1
  · exact imms_mem h h1
  · subst h1; exact he
theorem imms_cells {d : DV} (h : d.imm = true) : DV.imms d.cells = true := by
  cases d <;> first | (simpa [DV.cells, DV.imms] using h) | exact h
theorem setRow_facts (w : World) (g : Nat) (cur cs : Array Value) (t : TypeId) (hg : w.heap[g]? = some (.cells cur t (0, 0))) :
    (w.setRow g cs).heap[g]? = some (.cells cs t (0, 0)) ∧ (w.setRow g cs).heap.size = w.heap.size ∧ ∀ b, b ≠ g → (w.setRow g cs).heap[b]? = w.heap[b]? :=
  ⟨setRow_heap w g cur cs t (0, 0) hg, size_setRow w g cs, fun b hb => setRow_other w g b cs hb⟩
theorem gives_write (hrel : HeapRel w N0 φ H) {id : Nat} {r r' : Row} {pb : PB} {cur cs : Array Value} {vs rest : List Value} {v : DV} {x : Value} (hH : H id = some (.row r)) (hfz : r.fz = false) (hφ : φ id = some (some pb))
    (hg : w.heap[pb.b]? = some (.cells cur r.elem (0, 0)))
    (hr : (execOp a.eval o).run C.P w = .ok (.value x) (w.setRow pb.b cs) ∨ ((execOp a.eval o).run C.P w = .ok .skip (w.setRow pb.b cs) ∧ x = Go.undef))
    (he : r'.elem = r.elem) (hsz : pb.sz = r'.sz) (hext : ∀ e, r'.ext = some e → pb.ext = e * r'.sz) (hcs : cs.size = pb.ext) (hE : RepEs w (Nn N0 φ H) φ r'.sz r'.elems vs) (hl : cs.toList = vs ++ rest)
    (hleaf : r'.leaf = true → DV.imms r'.elems = true) (hf' : r'.fz = true → r'.leaf = true)
    (hx : Rep w (Nn N0 φ H) φ v x) : Gives C N0 slot a w φ H o v [(id, some (.row r'))] := by
  obtain ⟨f1, f2, f3⟩ := setRow_facts w pb.b cur cs r.elem hg
  have st := Step.write (w' := w.setRow pb.b cs) hrel hφ hH hfz (.row r') rfl rfl rfl f2 f3 (fun φ' H' L => ⟨cs, vs, rest, by rw [he]; exact f1, hcs, hsz, hext, hE.later L, hl, hleaf, hf'⟩)
  exact ⟨x, _, _, hr, st, hx.later st.later, fun _ h _ => h⟩
theorem take_len_add {α : Type} (A X : List α) (n : Nat) : (A ++ X).take (A.length + n) = A ++ X.take n := by
  rw [List.take_append, List.take_of_length_le (by omega), Nat.add_sub_cancel_left]
theorem storeD_sound {rd : Nat → Option Blk} (hrel : HeapRel w N0 φ H) (hrd : ∀ id b, rd id = some b → H id = some b) {t : TypeId} {oa ox : Operand} (ho : o.op = .store t oa ox) {p d r : DV} {e : Eff}
    (hp : Rep w (Nn N0 φ H) φ p (a.eval oa)) (hd : Rep w (Nn N0 φ H) φ d (a.eval ox)) (h : C.storeD rd t p d = some (r, e)) : Gives C N0 slot a w φ H o r e := by
  unfold Cfg.storeD at h
  split at h
  · rename_i id ix off
    split at h
    · rename_i b hb
      split at h
      · rename_i el n hel hn
        split at h
        · rename_i hc
          simp only [Bool.and_eq_true, decide_eq_true_eq, Bool.not_eq_true', Bool.or_eq_true] at hc
          obtain ⟨⟨⟨⟨hst, hlen⟩, hfit⟩, hfz⟩, himm⟩ := hc
          unfold Cfg.size at hn
          obtain ⟨i, hi, rfl⟩ := Option.map_eq_some_iff.1 hn
          obtain ⟨pb, cur, vs, rest, h1, h2, h3, h4, h5, h6, h7, h8, h9, h10⟩ := hrel.row (hrd _ _ (rowAt_some hb))
          unfold Rep at hp
          obtain ⟨_, q, hq, hv⟩ := hp
          rw [h1] at hq
          have hv := hv pb (by simpa using hq.symm)
          obtain ⟨hcd, hod⟩ := hd.cells hst
          have hcl := hcd.len
          rw [hlen, Array.length_toList] at hcl
          obtain ⟨A, D, x, rfl, k1, k2, k3, k4, k5, k6⟩ := h6.split ix hel
          have hcx := (k2.cells k3).1
          have hxl := hcx.len
          rw [Array.length_toList, k4] at hxl

          have hrun : ∀ (cs : List Value), cs = A ++ ((x.cells.toList.take off ++ (a.eval ox).cells.toList ++ x.cells.toList.drop (off + i.size)) ++ D) ++ rest →
              (execOp a.eval o).run C.P w = .ok .skip (w.setRow pb.b cs.toArray) := by
            rintro cs rfl
            have hsz : (a.eval ox).cells.size = i.size := hcl
            have hfit' : ix * pb.sz + off + 0 + (a.eval ox).cells.toList.length ≤ cur.size := by
              have := congrArg List.length h7
              simp only [Array.length_toList, List.length_append, k1, k4] at this
              rw [Array.length_toList, hsz, h4]
              omega
            have hst' := run_storeCells_at C.P pb.b (ix * pb.sz + off) b.elem (a.eval ox).cells.toList 0 cur w h2 (by simpa using hfit') hod
            simp only [execOp, ho, hv, Instr.storeAt, Instr.sureAddr, storeVar, Sem.run_bind, Sem.run_pure, Result.andThen_ok, sizeOf, typeInfo, run_program, hi, hsz, ne_eq, not_true_eq_false, if_false, hst', Nat.add_zero]
            congr 3
            have e1 : ix * pb.sz = A.length := by rw [k1, h4]
            have hoff : off ≤ x.cells.toList.length := by rw [Array.length_toList, k4]; omega
            have hln : (a.eval ox).cells.toList.length = i.size := by rw [Array.length_toList]; exact hcl
            rw [h7, e1, hln]
            simp only [List.append_assoc]
            rw [take_len_add, List.take_append_of_le_length hoff, Nat.add_assoc, drop_len, List.drop_append_of_le_length (by rw [Array.length_toList, k4]; omega)]
            simp only [List.append_assoc]
          have hsize : ∀ (m : List Value), m.length = i.size → (A ++ ((x.cells.toList.take off ++ m ++ x.cells.toList.drop (off + i.size)) ++ D) ++ rest).toArray.size = pb.ext := by
            intro m hm
            have := congrArg List.length h7
            simp only [Array.length_toList, List.length_append, k4] at this
            simp only [List.size_toArray, List.length_append, List.length_take, List.length_drop, Array.length_toList, k4, hm]
            omega
          split at h
          · rename_i cs
            simp only [Option.some.injEq, Prod.mk.injEq] at h
            obtain ⟨rfl, rfl⟩ := h
            unfold Rep at k2
            obtain ⟨xs, rfl, m1, m2⟩ := k2
            have hnew : Rep w (Nn N0 φ H) φ (.agg (putCells cs off d.cells)) (.agg (xs.toList.take off ++ (a.eval ox).cells.toList ++ xs.toList.drop (off + i.size)).toArray) := by
              unfold Rep
              refine ⟨_, rfl, ?_, One.append (One.append (m2.take _) hod) (m2.drop _)⟩
              unfold putCells
              rw [hlen]
              exact ((m1.take _).append hcd).append (m1.drop _)
            have hns : (Value.agg (xs.toList.take off ++ (a.eval ox).cells.toList ++ xs.toList.drop (off + i.size)).toArray).cells.size = b.sz := by
              have k4' : xs.size = b.sz := k4
              have hln : (a.eval ox).cells.toList.length = i.size := by rw [Array.length_toList]; exact hcl
              show (xs.toList.take off ++ (a.eval ox).cells.toList ++ xs.toList.drop (off + i.size)).toArray.size = b.sz
              simp only [List.size_toArray, List.length_append, List.length_take, List.length_drop, hln, Array.length_toList]
              have : off + i.size ≤ b.sz := by rw [hxl]; exact hfit
              omega
            refine gives_write (vs := A ++ ((xs.toList.take off ++ (a.eval ox).cells.toList ++ xs.toList.drop (off + i.size)) ++ D)) (rest := rest) (cs := (A ++ ((xs.toList.take off ++ (a.eval ox).cells.toList ++ xs.toList.drop (off + i.size)) ++ D) ++ rest).toArray) hrel (hrd _ _ (rowAt_some hb)) hfz h1 h2 (.inr ⟨hrun _ rfl, rfl⟩) rfl h4 h5 (hsize _ (by rw [Array.length_toList]; exact hcl)) ?_ (by simp) (fun hl => ?_) h9 (by unfold Rep; rfl)
            · exact k6 _ _ hnew rfl hns
            · refine imms_set _ (h8 hl) ?_
              have i1 : DV.imms cs = true := by
                have := imms_mem (h8 hl) (List.mem_of_getElem? hel)
                simpa [DV.imm] using this
              have i2 : d.imm = true := himm.resolve_left (by simp [show b.leaf = true from hl])
              simp only [DV.imm, putCells]
              exact imms_append (imms_append (imms_take i1 _) (imms_cells i2)) (imms_drop i1 _)
          · rename_i hne
            have h1c : el.cells = [el] := by
              cases el with
              | agg cs => exact absurd rfl (hne cs)
              | _ => rfl
            have hxs1 : x.cells.toList.length = 1 := by rw [hcx.len, h1c]; rfl
            split at h
            · exact absurd h (by simp)
            · rename_i hna
              split at h
              · rename_i hoff0
                simp only [Option.some.injEq, Prod.mk.injEq] at h
                obtain ⟨rfl, rfl⟩ := h
                subst hoff0
                have hd1 : d.cells = [d] := by
                  cases d with
                  | agg cs => exact absurd rfl (hna cs)
                  | _ => rfl
                have hil : i.size = 1 := by rw [← hlen, hd1]; rfl
                have hb1 : b.sz = 1 := by rw [hxl, h1c]; rfl
                have e2 : x.cells.toList.drop (0 + i.size) = [] := List.drop_eq_nil_of_le (by rw [hxs1, hil]; exact Nat.le_refl _)
                refine gives_write (vs := A ++ ((a.eval ox).cells.toList ++ D)) (rest := rest) (cs := (A ++ ((x.cells.toList.take 0 ++ (a.eval ox).cells.toList ++ x.cells.toList.drop (0 + i.size)) ++ D) ++ rest).toArray) hrel (hrd _ _ (rowAt_some hb)) hfz h1 h2 (.inr ⟨hrun _ rfl, rfl⟩) rfl h4 h5 (hsize _ (by rw [Array.length_toList]; exact hcl)) ?_ (by rw [e2]; simp) (fun hl => ?_) h9 (by unfold Rep; rfl)
                · exact k6 _ _ hd hst (by rw [hcl, hil, hb1])
                · exact imms_set _ (h8 hl) (himm.resolve_left (by simp [show b.leaf = true from hl]))
              · exact absurd h (by simp)
        · exact absurd h (by simp)
      · exact absurd h (by simp)
    · exact absurd h (by simp)
  · exact absurd h (by simp)
end
end Go.PM
end
section
namespace Go.PM
open Go
set_option linter.unusedVariables false
section
variable {C : Cfg} {N0 : Nat → Prop} {slot : Nat} {a : Act} {w : World} {φ : Phi} {H : Heap} {o : Oper}
theorem gives_new (hrel : HeapRel w N0 φ H) (hslot : ∀ j, slot ≤ j → j < slot + wide → φ j = none) {r : Row} {cs : Array Value} {vs rest : List Value} {v : DV} {x : Value} {w' : World}
    (hr : (execOp a.eval o).run C.P w = .ok (.value x) w') (hos : w'.os = w.os) (htape : w'.tape = w.tape) (hout : w'.output = w.output) (hheap : w'.heap = w.heap.push (.cells cs r.elem (0, 0)))
    (hext : ∀ e, r.ext = some e → cs.size = e * r.sz) (hE : RepEs w (Nn N0 φ H) φ r.sz r.elems vs) (hl : cs.toList = vs ++ rest) (hleaf : r.leaf = true → DV.imms r.elems = true) (hfz : r.fz = false)
    (hx : ∀ N φ', φ' slot = some (some ⟨w.heap.size, r.sz, cs.size⟩) → Rep w' N φ' v x) : Gives C N0 slot a w φ H o v [(slot, some (.row r))] := by
  have hs : φ slot = none := hslot slot (Nat.le_refl _) (by unfold wide; omega)
  have hget : w'.heap[w.heap.size]? = some (.cells cs r.elem (0, 0)) := by rw [hheap]; simp
  have st := Step.new hrel hs (.row r) ⟨w.heap.size, r.sz, cs.size⟩ rfl hos htape hout hheap (fun φ' H' L => ⟨cs, vs, rest, hget, rfl, rfl, hext, hE.later L, hl, hleaf, fun h => absurd h (by simp [hfz])⟩)
  refine ⟨x, w', _, .inl hr, st, hx _ _ (by simp), fun id hid hn => ?_⟩
  have : id ≠ slot := fun e => hn ⟨by omega, by unfold wide; omega⟩
  simp [this, hid]
theorem zero_rep {N : Nat → Prop} {t : TypeId} {z : DV} (h : C.zero t = some z) : ∃ i v, C.P.info? t = some i ∧ i.zero = some v ∧ Rep w N φ z v ∧ z.imm = true ∧ z.storable = true := by
  unfold Cfg.zero at h
  obtain ⟨i, h1, h2⟩ := Option.bind_eq_some_iff.1 h
  obtain ⟨v, h3, h4⟩ := Option.bind_eq_some_iff.1 h2
  obtain ⟨h5, h6, h7⟩ := rep_const (w := w) (N := N) (φ := φ) v z h4
  exact ⟨i, v, h1, h3, h5, h6, h7⟩
theorem run_zero {t : TypeId} {i : TypeInfo} {v : Value} (hi : C.P.info? t = some i) (hz : i.zero = some v) : (zeroValue t).run C.P w = .ok v w := by
  simp [zeroValue, typeInfo, hi, hz]
theorem push_eq (w : World) (o : Obj) : (w.alloc o).heap = w.heap.push o := rfl
theorem one_elem {N : Nat → Prop} {z : DV} {v : Value} (h : Rep w N φ z v) (hs : z.storable = true) : RepEs w N φ z.cells.length [z] v.cells.toList := by
  refine RepEs.one h hs ?_
  have := (h.cells hs).1.len
  rwa [Array.length_toList] at this
theorem alloc_sound (hrel : HeapRel w N0 φ H) (hslot : ∀ j, slot ≤ j → j < slot + wide → φ j = none) {elem : TypeId} (ho : o.op = .alloc elem) {z : DV} (hz : C.zero elem = some z) :
    Gives C N0 slot a w φ H o (.ptr slot 0 0) [(slot, some (.row { elems := [z], elem, sz := z.cells.length, ext := some 1, leaf := false, fz := false }))] := by
  obtain ⟨i, v, h1, h2, h3, h4, h5⟩ := zero_rep (w := w) (N := Nn N0 φ H) (φ := φ) hz
  have hc := (h3.cells h5).1.len
  rw [Array.length_toList] at hc
  refine gives_new (r := { elems := [z], elem, sz := z.cells.length, ext := some 1, leaf := false, fz := false }) (cs := v.cells) (vs := v.cells.toList) (rest := []) (x := .pointer (some ⟨w.heap.size, 0, none⟩)) (w' := w.alloc (.cells v.cells elem)) hrel hslot ?_ rfl rfl rfl rfl ?_ (one_elem h3 h5) (by simp) (by simp) rfl ?_
  · simp only [execOp, ho, Instr.alloc, Sem.run_bind, run_zero h1 h2, Result.andThen_ok, newVar, newRow, run_newObj, Sem.run_pure, World.alloc]
  · rintro e he
    simp only [Option.some.injEq] at he
    subst he
    show v.cells.size = 1 * z.cells.length
    omega
  · intro N φ' hφ
    unfold Rep
    exact ⟨rfl, _, hφ, fun pb hpb => by simp only [Option.some.injEq] at hpb; subst hpb; simp⟩
theorem box_sound (hrel : HeapRel w N0 φ H) (hslot : ∀ j, slot ≤ j → j < slot + wide → φ j = none) {elem : TypeId} {ox : Operand} (ho : o.op = .box elem ox) {z : DV} (h3 : Rep w (Nn N0 φ H) φ z (a.eval ox)) (h5 : z.storable = true) :
    Gives C N0 slot a w φ H o (.ptr slot 0 0) [(slot, some (.row { elems := [z], elem, sz := z.cells.length, ext := some 1, leaf := false, fz := false }))] := by
  have hc := (h3.cells h5).1.len
  rw [Array.length_toList] at hc
  refine gives_new (r := { elems := [z], elem, sz := z.cells.length, ext := some 1, leaf := false, fz := false }) (cs := (a.eval ox).cells) (vs := (a.eval ox).cells.toList) (rest := []) (x := .pointer (some ⟨w.heap.size, 0, none⟩)) (w' := w.alloc (.cells (a.eval ox).cells elem)) hrel hslot ?_ rfl rfl rfl rfl ?_ (one_elem h3 h5) (by simp) (by simp) rfl ?_
  · simp only [execOp, ho, Instr.box, Sem.run_bind, Result.andThen_ok, newVar, newRow, run_newObj, Sem.run_pure, World.alloc]
  · rintro e he
    simp only [Option.some.injEq] at he
    subst he
    show (a.eval ox).cells.size = 1 * z.cells.length
    omega
  · intro N φ' hφ
    unfold Rep
    exact ⟨rfl, _, hφ, fun pb hpb => by simp only [Option.some.injEq] at hpb; subst hpb; simp⟩
theorem replic_rep {N : Nat → Prop} {z : DV} {v : Value} {sz : Nat} (h : Rep w N φ z v) (hs : z.storable = true) (hz : v.cells.size = sz) : ∀ n, RepEs w N φ sz (replic n z) ((List.replicate n v.cells.toList).flatten)
  | 0 => by unfold replic; simp [RepEs]
  | n + 1 => by
    unfold replic
    simp only [List.replicate_succ, List.flatten_cons]
    unfold RepEs
    exact ⟨v, _, rfl, hz, hs, (h.cells hs).2, h, replic_rep h hs hz n⟩
theorem imms_replic {z : DV} (h : z.imm = true) (n : Nat) : DV.imms (replic n z) = true := imms_of fun d hd => by
  have := List.eq_of_mem_replicate hd
  subst this; exact h
theorem range_mod {z : Array Value} (n : Nat) (h : 0 < z.size) : ((Array.range (n * z.size)).map (z[· % z.size]!)).toList = (List.replicate n z.toList).flatten := by
  apply List.ext_getElem?
  intro k
  simp only [Array.toList_map, Array.toList_range, List.getElem?_map]
  induction n generalizing k with
  | zero => simp
  | succ n ih =>
    simp only [List.replicate_succ, List.flatten_cons]
    by_cases hk : k < z.size
    · rw [List.getElem?_append_left (by simpa using hk)]
      rw [List.getElem?_range (by rw [Nat.add_mul]; omega)]
      simp [Nat.mod_eq_of_lt hk, hk]
    · rw [List.getElem?_append_right (by simpa using hk)]
      simp only [Array.length_toList]
      rw [← ih (k - z.size)]
      have e : (k - z.size) % z.size = k % z.size := by
        rw [← Nat.mod_eq_sub_mod (by omega)]
      by_cases hl : k < (n + 1) * z.size
      · rw [List.getElem?_range hl, List.getElem?_range (by rw [Nat.add_mul] at hl; omega)]
        simp [e]
      · rw [List.getElem?_eq_none (by simpa using hl), List.getElem?_eq_none (by rw [Nat.add_mul] at hl; simp; omega)]
theorem foldl_put (off : Nat) : ∀ (l : List Value) (k : Nat) (cs : Array Value), off + k + l.length ≤ cs.size →
    ((l.zipIdx k).foldl (fun (cs : Array Value) (p : Value × Nat) => cs.setIfInBounds (off + p.2) p.1) cs).toList = cs.toList.take (off + k) ++ l ++ cs.toList.drop (off + k + l.length)
  | [], k, cs, h => by simp
  | v :: r, k, cs, h => by
    simp only [List.zipIdx_cons, List.foldl_cons]
    have hl : off + k + (r.length + 1) ≤ cs.toList.length := by simpa using h
    rw [foldl_put off r (k + 1) _ (by simp at h ⊢; omega)]
    have e := list_seg_step cs.toList (off + k) v r hl
    simpa [Array.toList_setIfInBounds, Nat.add_assoc] using e
theorem foldl_putA (off : Nat) (v cs : Array Value) (h : off + v.size ≤ cs.size) :
    (v.zipIdx.foldl (fun (cs : Array Value) (p : Value × Nat) => cs.setIfInBounds (off + p.2) p.1) cs).toList = cs.toList.take off ++ v.toList ++ cs.toList.drop (off + v.size) := by
  have := foldl_put off v.toList 0 cs (by simpa using h)
  simp only [Nat.add_zero, Array.length_toList] at this
  rw [← this, ← Array.foldl_toList]
  congr 2
  simp
theorem fill_elems {N : Nat → Prop} {sz : Nat} {place : Nat → Option (Nat × Nat)} (hpl : ∀ i, place i = some (i * sz, sz)) : ∀ (ps : List (Nat × DV)) (vs : List (Nat × Value)) (ds : List DV) (cs : Array Value),
    RepEs w N φ sz ds cs.toList → ps.map (·.1) = vs.map (·.1) → RepL w N φ (ps.map (·.2)) (vs.map (·.2)) → (∀ p ∈ ps, p.1 < ds.length ∧ p.2.storable = true ∧ p.2.cells.length = sz) →
    ∃ cs', Instr.fill place cs vs = some cs' ∧ RepEs w N φ sz (setElems ds ps) cs'.toList ∧ cs'.size = cs.size
  | [], vs, ds, cs, h, hi, hr, hc => by
    cases vs with
    | nil => exact ⟨cs, rfl, h, rfl⟩
    | cons x xs => exact absurd hi (by simp)
  | (i, d) :: ps, vs, ds, cs, h, hi, hr, hc => by
    cases vs with
    | nil => exact absurd hi (by simp)
    | cons x xs =>
      obtain ⟨j, v⟩ := x
      simp only [List.map_cons, List.cons.injEq] at hi
      obtain ⟨rfl, hi⟩ := hi
      simp only [List.map_cons] at hr
      unfold RepL at hr
      obtain ⟨y, r, he, h1, h2⟩ := hr
      simp only [List.cons.injEq] at he
      obtain ⟨rfl, rfl⟩ := he
      obtain ⟨c1, c2, c3⟩ := hc (i, d) List.mem_cons_self
      have hvl := (h1.cells c2).1.len
      rw [Array.length_toList, c3] at hvl
      obtain ⟨e, he⟩ : ∃ e, ds[i]? = some e := ⟨_, List.getElem?_eq_getElem c1⟩
      obtain ⟨A, D, x, hcs, k1, k2, k3, k4, k5, k6⟩ := h.split i he
      have hn := k6 d v h1 c2 hvl
      have hsz : i * sz + v.cells.size ≤ cs.size := by
        have := congrArg List.length hcs
        simp only [Array.length_toList, List.length_append, k1, k4] at this
        omega
      have hput := foldl_putA (i * sz) v.cells cs hsz
      have hput2 : (v.cells.zipIdx.foldl (fun (cs : Array Value) (p : Value × Nat) => cs.setIfInBounds (i * sz + p.2) p.1) cs).toList = A ++ (v.cells.toList ++ D) := by
        rw [hput, hcs, ← k1, List.take_left, drop_len, hvl, ← k4, ← Array.length_toList, List.drop_left, List.append_assoc]
      obtain ⟨cs', m1, m2, m3⟩ := fill_elems hpl ps xs (ds.set i d) _ (by rw [hput2]; exact hn) hi h2 (fun p hp => by
        have := hc p (List.mem_cons_of_mem _ hp)
        simpa using this)
      refine ⟨cs', ?_, m2, ?_⟩
      · simp only [Instr.fill, hpl]
        rw [if_neg (by simp [hvl]; omega)]
        exact m1
      · rw [m3]
        have := congrArg List.length (hput.trans rfl)
        simp only [Array.length_toList, List.length_append, List.length_take, List.length_drop] at this
        omega
theorem mapO_len {α β : Type} {f : α → Option β} : ∀ {l : List α} {r : List β}, mapO f l = some r → r.length = l.length
  | [], r, h => by simp only [mapO, Option.some.injEq] at h; subst h; rfl
  | a :: l, r, h => by
    simp only [mapO] at h
    split at h
    · rename_i b l' h1 h2
      simp only [Option.some.injEq] at h; subst h
      simp [mapO_len h2]
    · exact absurd h (by simp)
theorem mapO_ev {ev : Operand → Option DV} {N : Nat → Prop} (hev : EvRel ev a w N φ) : ∀ {l : List Operand} {r : List DV}, mapO ev l = some r → RepL w N φ r (l.map a.eval)
  | [], r, h => by simp only [mapO, Option.some.injEq] at h; subst h; unfold RepL; rfl
  | x :: l, r, h => by
    simp only [mapO] at h
    split at h
    · rename_i b l' h1 h2
      simp only [Option.some.injEq] at h; subst h
      unfold RepL
      exact ⟨_, _, rfl, hev x b h1, mapO_ev hev h2⟩
    · exact absurd h (by simp)
theorem mapO_parts {ev : Operand → Option DV} {N : Nat → Prop} (hev : EvRel ev a w N φ) : ∀ {l : List (Nat × Operand)} {r : List (Nat × DV)}, mapO (fun p : Nat × Operand => (ev p.2).map fun v => (p.1, v)) l = some r →
    r.map (·.1) = (l.map fun p => (p.1, a.eval p.2)).map (·.1) ∧ RepL w N φ (r.map (·.2)) ((l.map fun p => (p.1, a.eval p.2)).map (·.2))
  | [], r, h => by simp only [mapO, Option.some.injEq] at h; subst h; exact ⟨rfl, by unfold RepL; rfl⟩
  | x :: l, r, h => by
    simp only [mapO] at h
    split at h
    · rename_i b l' h1 h2
      simp only [Option.some.injEq] at h; subst h
      obtain ⟨v, h3, rfl⟩ := Option.map_eq_some_iff.1 h1
      obtain ⟨h4, h5⟩ := mapO_parts hev h2
      refine ⟨by simp only [List.map_cons, h4], ?_⟩
      simp only [List.map_cons]
      unfold RepL
      exact ⟨_, _, rfl, hev _ v h3, h5⟩
    · exact absurd h (by simp)
theorem setElems_imm : ∀ (ps : List (Nat × DV)) {ds : List DV}, DV.imms ds = true → (∀ p ∈ ps, p.2.imm = true) → DV.imms (setElems ds ps) = true
  | [], ds, h, _ => h
  | (i, d) :: ps, ds, h, hp => setElems_imm ps (imms_set i h (hp (i, d) List.mem_cons_self)) fun p hq => hp p (List.mem_cons_of_mem _ hq)
theorem ref_new {N : Nat → Prop} {φ' : Phi} {b sz ext n c : Nat} (hφ : φ' slot = some (some ⟨b, sz, ext⟩)) (hc : n ≤ c) (he : c * sz = ext) : Rep w N φ' (.ref slot 0 n none) (.slice (some ⟨b, 0, none⟩) n c) := by
  unfold Rep
  exact ⟨rfl, _, hφ, fun pb hpb => by simp only [Option.some.injEq] at hpb; subst hpb; exact ⟨c, by simp, hc, by simpa using he⟩⟩
theorem buildSlice_sound (hrel : HeapRel w N0 φ H) (hslot : ∀ j, slot ≤ j → j < slot + wide → φ j = none) {ev : Operand → Option DV} (hev : EvRel ev a w (Nn N0 φ H) φ) {t elem : TypeId} {len n : Nat} {parts : Array (Nat × Operand)} (ho : o.op = .buildSlice t len parts)
    {z : DV} {ps : List (Nat × DV)} (hu : C.P.underlying t = some (.slice elem)) (hz : C.zero elem = some z) (hps : mapO (fun p : Nat × Operand => (ev p.2).map fun v => (p.1, v)) parts.toList = some ps) (hn : C.size elem = some n)
    (h0 : 0 < n) (hbig : len * n ≤ 16777216) (hall : ∀ p ∈ ps, p.1 < len ∧ p.2.storable = true ∧ p.2.imm = true ∧ p.2.cells.length = n) (hzi : z.imm = true) (hzn : z.cells.length = n) :
    Gives C N0 slot a w φ H o (.ref slot 0 len none) [(slot, some (.row { elems := setElems (replic len z) ps, elem, sz := n, ext := some len, leaf := true, fz := false }))] := by
  obtain ⟨i, v, h1, h2, h3, h4, h5⟩ := zero_rep (w := w) (N := Nn N0 φ H) (φ := φ) hz
  have hc := (h3.cells h5).1.len
  rw [Array.length_toList, hzn] at hc
  unfold Cfg.size at hn
  rw [h1] at hn
  simp only [Option.map_some, Option.some.injEq] at hn
  subst hn
  obtain ⟨p1, p2⟩ := mapO_parts hev hps
  have hcs : ((Array.range (len * i.size)).map (v.cells[· % v.cells.size]!)).toList = (List.replicate len v.cells.toList).flatten := by
    rw [← hc]; exact range_mod len (by omega)
  obtain ⟨cs', m1, m2, m3⟩ := fill_elems (w := w) (φ := φ) (N := Nn N0 φ H) (place := fun i_1 => some (i_1 * i.size, i.size)) (fun _ => rfl) ps (parts.toList.map fun p => (p.1, a.eval p.2)) (replic len z) ((Array.range (len * i.size)).map (v.cells[· % v.cells.size]!))
    (by rw [hcs]; exact replic_rep h3 h5 hc len) p1 p2 (fun p hp => by
      obtain ⟨q1, q2, _, q4⟩ := hall p hp
      exact ⟨by simpa [replic] using q1, q2, q4⟩)
  have hsz : cs'.size = len * i.size := by rw [m3]; simp
  refine gives_new (r := { elems := setElems (replic len z) ps, elem, sz := i.size, ext := some len, leaf := true, fz := false }) (cs := cs') (vs := cs'.toList) (rest := []) (x := .slice (some ⟨w.heap.size, 0, none⟩) len len) (w' := w.alloc (.cells cs' elem)) hrel hslot ?_ rfl rfl rfl rfl ?_ m2 (by simp) (fun _ => setElems_imm ps (imms_replic hzi len) fun p hp => (hall p hp).2.2.1) rfl ?_
  · simp only [execOp, ho, Instr.buildSlice, Sem.run_bind, run_underlying hu, Result.andThen_ok, sizeOf, typeInfo, run_program, h1, Sem.run_pure]
    rw [if_neg (by omega)]
    have hparts : (parts.map fun p => (p.1, a.eval p.2)).toList = parts.toList.map fun p => (p.1, a.eval p.2) := by simp
    by_cases hl : len * i.size = 0
    · have hl0 : (Array.range (len * i.size)).map (fun x => v.cells[x % v.cells.size]!) = #[] := by rw [hl]; simp
      rw [hl0] at m1
      simp only [hl, if_true, Sem.run_pure, Result.andThen_ok, Array.range_zero', Array.map_empty, hparts, m1, newRow, Sem.run_bind, run_newObj]
      rfl
    · simp only [hl, if_false, Sem.run_bind, run_zero h1 h2, Sem.run_pure, Result.andThen_ok, hparts, m1, newRow, run_newObj]
      rfl
  · rintro e he
    simp only [Option.some.injEq] at he
    subst he
    exact hsz
  · intro N φ' hφ
    exact ref_new hφ (Nat.le_refl _) hsz.symm
end
end Go.PM
end
section
namespace Go.PM
open Go
set_option linter.unusedVariables false
section
variable {C : Cfg} {N0 : Nat → Prop} {slot : Nat} {a : Act} {w : World} {φ : Phi} {H : Heap} {o : Oper}
theorem makeSlice_sound (hrel : HeapRel w N0 φ H) (hslot : ∀ j, slot ≤ j → j < slot + wide → φ j = none) {t elem : TypeId} {ol oc : Operand} (ho : o.op = .makeSlice t ol oc)
    {l c : Int} (hl : a.eval ol = .int .i64 l) (hc : a.eval oc = .int .i64 c) {z : DV} {n : Nat} {i : TypeInfo} (hu : C.P.underlying t = some (.slice elem)) (hz : C.zero elem = some z) (hn : C.size elem = some n) (hi : C.P.info? elem = some i)
    (h0 : 0 < n) (hl0 : 0 ≤ l) (hlc : l ≤ c) (hc63 : c ≤ 9223372036854775807) (hby : c.toNat * i.bytes ≤ 140737488355328) (hzi : z.imm = true) (hzn : z.cells.length = n) :
    Gives C N0 slot a w φ H o (.ref slot 0 l.toNat none) [(slot, some (.row { elems := replic c.toNat z, elem, sz := n, ext := some c.toNat, leaf := true, fz := false }))] := by
  obtain ⟨i', v, h1, h2, h3, h4, h5⟩ := zero_rep (w := w) (N := Nn N0 φ H) (φ := φ) hz
  rw [hi] at h1
  simp only [Option.some.injEq] at h1
  subst h1
  have hcc := (h3.cells h5).1.len
  rw [Array.length_toList, hzn] at hcc
  unfold Cfg.size at hn
  rw [hi] at hn
  simp only [Option.map_some, Option.some.injEq] at hn
  subst hn
  have hcs : (madeCells v.cells (c.toNat * i.size)).toList = (List.replicate c.toNat v.cells.toList).flatten := by
    have := range_mod (z := v.cells) c.toNat (by omega)
    rw [hcc] at this
    unfold madeCells
    rw [← this, hcc]
  refine gives_new (r := { elems := replic c.toNat z, elem, sz := i.size, ext := some c.toNat, leaf := true, fz := false }) (cs := madeCells v.cells (c.toNat * i.size)) (vs := (madeCells v.cells (c.toNat * i.size)).toList) (rest := []) (x := .slice (some ⟨w.heap.size, 0, none⟩) l.toNat c.toNat) (w' := w.alloc (.cells (madeCells v.cells (c.toNat * i.size)) elem)) hrel hslot ?_ rfl rfl rfl rfl ?_ ?_ (by simp) (fun _ => imms_replic hzi _) rfl ?_
  · have hb : (i.bytes : Int) * c ≤ 281474976710656 := by
      have h1 : ((c.toNat * i.bytes : Nat) : Int) = c * i.bytes := by rw [Int.natCast_mul, Int.toNat_of_nonneg (by omega)]
      have h2 : ((c.toNat * i.bytes : Nat) : Int) ≤ 140737488355328 := by omega
      rw [h1, Int.mul_comm] at h2
      omega
    have := run_make (P := C.P) w t elem i v hu hi h2 .i64 .i64 l c hl0 hlc hb hc63
    simp only [execOp, ho, hl, hc, Sem.run_bind, this, Result.andThen_ok, Sem.run_pure]
  · rintro e he
    simp only [Option.some.injEq] at he
    subst he
    exact size_madeCells _ _
  · show RepEs w (Nn N0 φ H) φ i.size (replic c.toNat z) (madeCells v.cells (c.toNat * i.size)).toList
    rw [hcs]; exact replic_rep h3 h5 hcc _
  · intro N φ' hφ
    exact ref_new hφ (by omega) (size_madeCells _ _).symm
theorem elemsOf_rep {rd : Nat → Option Blk} (hrel : HeapRel w N0 φ H) (hrd : ∀ id b, rd id = some b → H id = some b) {x : DV} {v : Value} {ys : List DV} (hx : Rep w (Nn N0 φ H) φ x v) (h : elemsOf rd x = some ys) :
    DV.imms ys = true ∧ ∃ A c, v = .slice A ys.length c ∧ ys.length ≤ c ∧ (ys = [] ∨ ∃ b off sz vs, A = some ⟨b, off, none⟩ ∧ RepEs w (Nn N0 φ H) φ sz ys vs ∧ CellsAt w b off vs) := by
  unfold elemsOf at h
  split at h
  · rename_i es t
    simp only [Option.some.injEq] at h; subst h
    unfold Rep at hx
    obtain ⟨hi, A, c, rfl, _, h3, h4⟩ := hx
    refine ⟨hi, A, c, rfl, h3, h4.imp id ?_⟩
    rintro ⟨b, off, sz, vs, rfl, _, _, h7, h8⟩
    exact ⟨b, off, sz, vs, rfl, h7, h8⟩
  · rename_i id off len cap
    split at h
    · rename_i r hr
      split at h
      · rename_i hc
        simp only [Bool.and_eq_true, decide_eq_true_eq] at hc
        simp only [Option.some.injEq] at h; subst h
        obtain ⟨pb, cur, vs, rest, h1, h2, h3, h4, h5, h6, h7, h8, h9, h10⟩ := hrel.row (hrd _ _ (rowAt_some hr))
        unfold Rep at hx
        obtain ⟨_, q, hq, hv⟩ := hx
        rw [h1] at hq
        obtain ⟨c, rfl, hlc, _⟩ := hv pb (by simpa using hq.symm)
        have hlen : ((r.elems.drop off).take len).length = len := by simp; omega
        refine ⟨imms_take (imms_drop (h8 hc.1) _) _, some ⟨pb.b, off * pb.sz, none⟩, c, by rw [hlen], by rw [hlen]; exact hlc, .inr ⟨pb.b, off * pb.sz, r.sz, (vs.drop (off * r.sz)).take (len * r.sz), rfl, (h6.drop off).take len, ?_⟩⟩
        rw [h7] at h10
        have := h10.sub (k := off * r.sz) (us := (vs.drop (off * r.sz)).take (len * r.sz)) (fun j y hj => by
          rw [List.getElem?_take] at hj
          split at hj
          · rw [List.getElem?_drop] at hj
            rw [List.getElem?_append_left (List.getElem?_eq_some_iff.1 hj).1]
            exact hj
          · exact absurd hj (by simp))
        rw [Nat.zero_add] at this
        rw [h4]
        exact this
      · exact absurd h (by simp)
    · exact absurd h (by simp)
  · exact absurd h (by simp)
theorem headSz_all {N : Nat → Prop} {sz n : Nat} {ys : List DV} {vs : List Value} (h : RepEs w N φ sz ys vs) (hh : headSz n ys = true) : ys = [] ∨ sz = n := by
  cases ys with
  | nil => exact .inl rfl
  | cons y ys =>
    unfold RepEs at h
    obtain ⟨x, r, rfl, h2, h3, h4, h5, h6⟩ := h
    simp only [headSz, beq_iff_eq] at hh
    have := (h5.cells h3).1.len
    rw [Array.length_toList] at this
    exact .inr (by omega)
theorem bytes_rep {N : Nat → Prop} : ∀ (s : List UInt8), RepEs w N φ 1 (s.map fun b => DV.int .u8 b.toNat) (s.map fun b => Value.int .u8 b.toNat)
  | [] => by simp [RepEs]
  | b :: s => by
    simp only [List.map_cons]
    unfold RepEs
    exact ⟨.int .u8 b.toNat, _, rfl, rfl, rfl, fun u hu => by simp [Value.cells] at hu; subst hu; rfl, by unfold Rep; rfl, bytes_rep s⟩
theorem append_new (hrel : HeapRel w N0 φ H) (hslot : ∀ j, slot ≤ j → j < slot + wide → φ j = none) {t elem : TypeId} {os ox : Operand} (ho : o.op = .call { callee := .builtin .append, args := #[os, ox], argTypes := #[t, t] })
    {i : TypeInfo} {z : Value} (hu : C.P.underlying t = some (.slice elem)) (hi : C.P.info? elem = some i) (hz : i.zero = some z) (h0 : 0 < i.size)
    {es ys : List DV} {vs us : List Value} {A : Option Addr} {c : Nat} {X : Addr} {xc : Nat} (hs : a.eval os = .slice A es.length c) (hx : a.eval ox = .slice (some X) ys.length xc)
    (hes : RepEs w (Nn N0 φ H) φ i.size es vs) (hys : RepEs w (Nn N0 φ H) φ i.size ys us) (hA : es = [] ∨ ∃ b off, A = some ⟨b, off, none⟩ ∧ CellsAt w b off vs) (hX : ∃ b off, X = ⟨b, off, none⟩ ∧ CellsAt w b off us)
    (hA0 : A = none → c = 0) (hzsz : z.cells.size = i.size) (hne : ys ≠ []) (hc : c < es.length + ys.length) (hby : (es.length + ys.length) * i.bytes ≤ 140737488355328) (h63 : es.length + ys.length ≤ 9223372036854775807) (ie : DV.imms es = true) (iy : DV.imms ys = true) :
    Gives C N0 slot a w φ H o (.ref slot 0 (es.length + ys.length) none) [(slot, some (.row { elems := es ++ ys, elem, sz := i.size, ext := none, leaf := true, fz := false }))] := by
  obtain ⟨xb, xo, rfl, hXc⟩ := hX
  have hyl : ys.length ≠ 0 := fun e => hne (List.eq_nil_of_length_eq_zero e)
  have hus : ∀ j v, us[j]? = some v → w.cell? ((⟨xb, xo, none⟩ : Addr).add j) = some v := fun j v hj => by rw [Addr.add_lit]; exact hXc j v hj
  obtain ⟨cap, hcap, hrun⟩ : ∃ cap, es.length + ys.length ≤ cap ∧ (Builtin.append_ #[t, t] o.type #[a.eval os, a.eval ox]).run C.P w =
      .ok (.slice (some ⟨w.heap.size, 0, none⟩) (es.length + ys.length) cap) (w.drew.alloc (.cells (vs.toArray ++ us.toArray ++ Builtin.zeroCells z.cells (cap - (es.length + ys.length))) elem)) := by
    rw [hs, hx]
    cases A with
    | none =>
      have hes0 : es = [] := by
        rcases hA with h1 | ⟨b, off, h1, _⟩
        · exact h1
        · exact absurd h1 (by simp)
      subst hes0
      have hvs : vs = [] := by unfold RepEs at hes; exact hes
      subst hvs
      have hc0 := hA0 rfl
      subst hc0
      have hb2 : ys.length * i.bytes ≤ 281474976710656 := by simp only [List.length_nil, Nat.zero_add] at hby; omega
      have := run_append_nil (P := C.P) w t o.type elem i z hu hi hz ⟨xb, xo, none⟩ ys.length xc us hys.len hus (by omega) (by simp at h63; omega) hb2
      refine ⟨_, by simpa using grownCap_ge w ys.length 0 elem, ?_⟩
      simp only [List.length_nil, Nat.zero_add, this]
      simp
    | some b =>
      have hvs : ∀ j v, vs[j]? = some v → w.cell? (b.add j) = some v := by
        rcases hA with rfl | ⟨b', off, h1, h2⟩
        · have hvs : vs = [] := by unfold RepEs at hes; exact hes
          subst hvs
          exact fun j v hj => absurd hj (by simp)
        · simp only [Option.some.injEq] at h1
          subst h1
          exact fun j v hj => by rw [Addr.add_lit]; exact h2 j v hj
      exact ⟨_, grownCap_ge w _ c elem, run_append_grow (P := C.P) w t o.type elem i z hu hi hz b es.length c vs hes.len hvs ⟨xb, xo, none⟩ ys.length xc us hys.len hus hc (by omega) (growslice_fits hc hby)⟩
  have hzs : z.cells.size = i.size := hzsz
  refine gives_new (r := { elems := es ++ ys, elem, sz := i.size, ext := none, leaf := true, fz := false }) (cs := vs.toArray ++ us.toArray ++ Builtin.zeroCells z.cells (cap - (es.length + ys.length))) (vs := vs ++ us) (rest := (Builtin.zeroCells z.cells (cap - (es.length + ys.length))).toList) (x := .slice (some ⟨w.heap.size, 0, none⟩) (es.length + ys.length) cap) (w' := w.drew.alloc (.cells (vs.toArray ++ us.toArray ++ Builtin.zeroCells z.cells (cap - (es.length + ys.length))) elem)) hrel hslot ?_ rfl rfl rfl rfl (fun e he => absurd he (by simp)) (hes.append hys) (by simp) (fun _ => imms_append ie iy) rfl ?_
  · simp only [execOp, ho, resolve, invoke, builtin, Sem.run_bind, Sem.run_pure, Result.andThen_ok, List.map_toArray, List.map_cons, List.map_nil]
    rw [hrun]
    rfl
  · intro N φ' hφ
    refine ref_new hφ hcap ?_
    simp only [Array.size_append, List.size_toArray, size_zeroCells, hzs, hes.len, hys.len, ← Nat.add_mul]
    congr 1
    omega
theorem run_append_room_at (t ty e : TypeId) (i : TypeInfo) (ht : C.P.underlying t = some (.slice e)) (hi : C.P.info? e = some i)
    (g k sLen sCap : Nat) (cur : Array Value) (hg : w.heap[g]? = some (.cells cur e (0, 0)))
    (b : Addr) (m c : Nat) (news : List Value) (hl : news.length = m * i.size) (hnews : ∀ j u, news[j]? = some u → w.cell? (b.add j) = some u) (h1 : One news)
    (hroom : sLen + m ≤ sCap) (hfit : k + sLen * i.size + news.length ≤ cur.size) :
    (Builtin.append_ #[t, t] ty #[.slice (some ⟨g, k, none⟩) sLen sCap, .slice (some b) m c]).run C.P w =
      .ok (.slice (some ⟨g, k, none⟩) (sLen + m) sCap) (w.setRow g (cur.toList.take (k + sLen * i.size) ++ news ++ cur.toList.drop (k + sLen * i.size + news.length)).toArray) := by
  have hf := run_firstCells_some (P := C.P) w i.size m b m c news hl hnews
  have hst := run_storeCells_at C.P g (k + sLen * i.size) e news 0 cur w hg (by simpa using hfit) h1
  simp only [Nat.add_zero] at hst
  simp [Builtin.append_, run_underlying ht, sizeOf, typeInfo, hi, Builtin.lenOf, hroom, hf, Addr.add_lit, hst]
theorem run_append_nothing (t ty e : TypeId) (i : TypeInfo) (ht : C.P.underlying t = some (.slice e)) (hi : C.P.info? e = some i) (A B : Option Addr) (n c k : Nat) (hn : n ≤ c) :
    (Builtin.append_ #[t, t] ty #[.slice A n c, .slice B 0 k]).run C.P w = .ok (.slice A n c) w := by
  cases B <;> cases A <;> simp [Builtin.append_, run_underlying ht, sizeOf, typeInfo, hi, Builtin.lenOf, Builtin.firstCells, loadCells, loadCellsFrom, hn, storeCells]
theorem exec_append {t : TypeId} {os ox : Operand} (ho : o.op = .call { callee := .builtin .append, args := #[os, ox], argTypes := #[t, t] }) {x : Value} {w' : World}
    (h : (Builtin.append_ #[t, t] o.type #[a.eval os, a.eval ox]).run C.P w = .ok x w') : (execOp a.eval o).run C.P w = .ok (.value x) w' := by
  simp only [execOp, ho, resolve, invoke, builtin, Sem.run_bind, Sem.run_pure, Result.andThen_ok, List.map_toArray, List.map_cons, List.map_nil, h]
theorem append_place (hrel : HeapRel w N0 φ H) {t elem : TypeId} {os ox : Operand} (ho : o.op = .call { callee := .builtin .append, args := #[os, ox], argTypes := #[t, t] })
    {i : TypeInfo} (hu : C.P.underlying t = some (.slice elem)) (hi : C.P.info? elem = some i) {id off len c : Nat} {cap : Option Nat} {r : Row} (hH : H id = some (.row r)) (hfz : r.fz = false) (hleaf : r.leaf = true) (hel : r.elem = elem) (hrs : r.sz = i.size)
    {pb : PB} {cur : Array Value} {vs rest us : List Value} {ys : List DV} {X : Addr} {xc : Nat} (hφ : φ id = some (some pb)) (hg : w.heap[pb.b]? = some (.cells cur r.elem (0, 0))) (hcur : cur.size = pb.ext) (hps : pb.sz = r.sz) (hext : ∀ e, r.ext = some e → pb.ext = e * r.sz)
    (hE : RepEs w (Nn N0 φ H) φ r.sz r.elems vs) (hl : cur.toList = vs ++ rest) (him : DV.imms r.elems = true) (hs : a.eval os = .slice (some ⟨pb.b, off * pb.sz, none⟩) len c) (hx : a.eval ox = .slice (some X) ys.length xc)
    (hys : RepEs w (Nn N0 φ H) φ i.size ys us) (hX : ∃ b off, X = ⟨b, off, none⟩ ∧ CellsAt w b off us) (iy : DV.imms ys = true) (hroom : len + ys.length ≤ c) (hfit : (off + c) * pb.sz ≤ pb.ext) (hlen : off + len ≤ r.elems.length)
    (hres : Rep w (Nn N0 φ H) φ (.ref id off (len + ys.length) cap) (.slice (some ⟨pb.b, off * pb.sz, none⟩) (len + ys.length) c)) :
    Gives C N0 slot a w φ H o (.ref id off (len + ys.length) cap) [(id, some (.row { r with elems := r.elems.take (off + len) ++ ys ++ r.elems.drop (off + len + ys.length) }))] := by
  obtain ⟨xb, xo, rfl, hXc⟩ := hX
  subst hel
  have hul := hys.len
  have hp : off * i.size + len * i.size = (off + len) * i.size := by rw [Nat.add_mul]
  have hfit' : off * i.size + len * i.size + us.length ≤ cur.size := by
    rw [hp, hul, ← Nat.add_mul, hcur]
    rw [hps, hrs] at hfit
    exact Nat.le_trans (Nat.mul_le_mul_right _ (by omega)) hfit
  have hrun := run_append_room_at (C := C) (w := w) t o.type r.elem i hu hi pb.b (off * i.size) len c cur hg ⟨xb, xo, none⟩ ys.length xc us hul (fun j v hj => by rw [Addr.add_lit]; exact hXc j v hj) hys.ones hroom hfit'
  have hvl := hE.len
  rw [hrs] at hvl
  have h3 : (off + len) * i.size ≤ vs.length := by rw [hvl]; exact Nat.mul_le_mul_right _ hlen
  refine gives_write (vs := vs.take ((off + len) * i.size) ++ us ++ vs.drop ((off + len + ys.length) * i.size)) (rest := rest.drop ((off + len + ys.length) * i.size - vs.length)) (cs := (cur.toList.take (off * i.size + len * i.size) ++ us ++ cur.toList.drop (off * i.size + len * i.size + us.length)).toArray) hrel hH hfz hφ hg (.inl (exec_append ho ?_)) rfl hps hext ?_ ?_ ?_ (fun _ => imms_append (imms_append (imms_take him _) iy) (imms_drop him _)) (fun h => hleaf) hres
  · rw [hs, hx, hps, hrs]; exact hrun
  · simp only [List.size_toArray, List.length_append, List.length_take, List.length_drop, Array.length_toList]
    omega
  · show RepEs w (Nn N0 φ H) φ r.sz (r.elems.take (off + len) ++ ys ++ r.elems.drop (off + len + ys.length)) _
    rw [hrs] at hE ⊢
    exact ((hE.take _).append hys).append (hE.drop _)
  · simp only []
    have e1 : off * i.size + len * i.size + us.length = (off + len + ys.length) * i.size := by rw [hp, hul, ← Nat.add_mul]
    rw [e1, hp, hl, List.take_append_of_le_length h3, List.drop_append, List.append_assoc, List.append_assoc, List.append_assoc]
end
end Go.PM
end
section
namespace Go.PM
open Go
set_option linter.unusedVariables false
section
variable {C : Cfg} {N0 : Nat → Prop} {slot : Nat} {a : Act} {w : World} {φ : Phi} {H : Heap} {o : Oper}
theorem append_move (hrel : HeapRel w N0 φ H) (hslot : ∀ j, slot ≤ j → j < slot + wide → φ j = none) {t elem : TypeId} {os ox : Operand} (ho : o.op = .call { callee := .builtin .append, args := #[os, ox], argTypes := #[t, t] })
    {i : TypeInfo} {z : Value} (hu : C.P.underlying t = some (.slice elem)) (hi : C.P.info? elem = some i) (hz : i.zero = some z) (hzs : z.cells.size = i.size) {id len c : Nat} {r : Row} (hH : H id = some (.row r)) (hfz : r.fz = false) (hel : r.elem = elem) (hrs : r.sz = i.size)
    {pb : PB} {cur : Array Value} {vs rest us : List Value} {ys : List DV} {X : Addr} {xc : Nat} (hφ : φ id = some (some pb)) (hg : w.heap[pb.b]? = some (.cells cur r.elem (0, 0))) (hcur : cur.size = pb.ext) (hps : pb.sz = r.sz)
    (hE : RepEs w (Nn N0 φ H) φ r.sz r.elems vs) (hl : cur.toList = vs ++ rest) (him : DV.imms r.elems = true) (hs : a.eval os = .slice (some ⟨pb.b, 0, none⟩) len c) (hx : a.eval ox = .slice (some X) ys.length xc)
    (hys : RepEs w (Nn N0 φ H) φ i.size ys us) (hX : ∃ b off, X = ⟨b, off, none⟩ ∧ CellsAt w b off us) (iy : DV.imms ys = true) (hfit : c * pb.sz = pb.ext) (hlen : len ≤ r.elems.length) (hlc : len ≤ c)
    (hby : (len + ys.length) * i.bytes ≤ 140737488355328) (h63 : len + ys.length ≤ 9223372036854775807) :
    Gives C N0 slot a w φ H o (.ref slot 0 (len + ys.length) none) [(id, none), (slot, some (.row { elems := r.elems.take len ++ ys, elem, sz := i.size, ext := none, leaf := true, fz := false }))] := by
  obtain ⟨xb, xo, rfl, hXc⟩ := hX
  subst hel
  have hsl : φ slot = none := hslot slot (Nat.le_refl _) (by unfold wide; omega)
  have hul := hys.len
  have hvl := hE.len
  rw [hrs] at hvl
  have h3 : len * i.size ≤ vs.length := by rw [hvl]; exact Nat.mul_le_mul_right _ hlen
  have hus : ∀ j v, us[j]? = some v → w.cell? ((⟨xb, xo, none⟩ : Addr).add j) = some v := fun j v hj => by rw [Addr.add_lit]; exact hXc j v hj
  have hE' : RepEs w (Nn N0 φ H) φ i.size (r.elems.take len ++ ys) (vs.take (len * i.size) ++ us) := by rw [hrs] at hE; exact (hE.take len).append hys
  have hfin : ∀ id', φ id' = none → ¬ (slot ≤ id' ∧ id' < slot + wide) → ∀ pb' : PB, (if id' = slot then some (some pb') else if id' = id then some none else φ id') = none := fun id' h1 h2 pb' => by
    have e1 : id' ≠ slot := fun e => h2 ⟨by omega, by unfold wide; omega⟩
    have e2 : id' ≠ id := fun e => by subst e; rw [hφ] at h1; exact absurd h1 (by simp)
    simp [e1, e2, h1]
  by_cases hroom : len + ys.length ≤ c
  · have hfit' : 0 + len * i.size + us.length ≤ cur.size := by
      rw [Nat.zero_add, hul, ← Nat.add_mul, hcur, ← hfit, hps, hrs]
      exact Nat.mul_le_mul_right _ hroom
    have hrun := run_append_room_at (C := C) (w := w) t o.type r.elem i hu hi pb.b 0 len c cur hg ⟨xb, xo, none⟩ ys.length xc us hul hus hys.ones hroom hfit'
    obtain ⟨f1, f2, f3⟩ := setRow_facts w pb.b cur (cur.toList.take (0 + len * i.size) ++ us ++ cur.toList.drop (0 + len * i.size + us.length)).toArray r.elem hg
    have hsz : (cur.toList.take (0 + len * i.size) ++ us ++ cur.toList.drop (0 + len * i.size + us.length)).toArray.size = pb.ext := by
      simp only [List.size_toArray, List.length_append, List.length_take, List.length_drop, Array.length_toList]
      omega
    have st := Step.move (w' := w.setRow pb.b (cur.toList.take (0 + len * i.size) ++ us ++ cur.toList.drop (0 + len * i.size + us.length)).toArray) hrel hsl hφ hH hfz
      (.row { elems := r.elems.take len ++ ys, elem := r.elem, sz := i.size, ext := none, leaf := true, fz := false }) ⟨pb.b, i.size, pb.ext⟩ rfl rfl rfl (by rw [f2]; exact Nat.le_refl _) (fun b _ hb => f3 b hb) (.inl rfl)
      (fun φ' H' L => ⟨_, vs.take (len * i.size) ++ us, cur.toList.drop (0 + len * i.size + us.length), f1, hsz, rfl, fun e he => absurd he (by simp), hE'.later L, by
        simp only [Nat.zero_add]
        rw [hl, List.take_append_of_le_length h3], fun _ => imms_append (imms_take him _) iy, fun _ => rfl⟩)
    refine ⟨.slice (some ⟨pb.b, 0, none⟩) (len + ys.length) c, _, _, .inl (exec_append ho ?_), st, ?_, fun id' h1 h2 => hfin id' h1 h2 _⟩
    · rw [hs, hx]; exact hrun
    · exact ref_new (sz := i.size) (ext := pb.ext) (by simp) hroom (by rw [← hrs, ← hps]; exact hfit)
  · have hold : ∀ j v, (vs.take (len * i.size))[j]? = some v → w.cell? ((⟨pb.b, 0, none⟩ : Addr).add j) = some v := fun j v hj => by
      rw [Addr.add_lit, Nat.zero_add, cell_of_row w pb.b j cur r.elem (0, 0) hg]
      rw [List.getElem?_take] at hj
      split at hj
      · have : cur.toList[j]? = some v := by rw [hl, List.getElem?_append_left (List.getElem?_eq_some_iff.1 hj).1]; exact hj
        simpa using this
      · exact absurd hj (by simp)
    have hrun := run_append_grow (P := C.P) w t o.type r.elem i z hu hi hz ⟨pb.b, 0, none⟩ len c (vs.take (len * i.size)) (by rw [List.length_take]; omega) hold ⟨xb, xo, none⟩ ys.length xc us hul hus (by omega) (by omega) (growslice_fits (by omega) hby)
    have hge := grownCap_ge w (len + ys.length) c r.elem
    have hsize : ((vs.take (len * i.size)).toArray ++ us.toArray ++ Builtin.zeroCells z.cells (grownCap w (len + ys.length) c r.elem - (len + ys.length))).size = grownCap w (len + ys.length) c r.elem * i.size := by
      simp only [Array.size_append, List.size_toArray, size_zeroCells, hzs, List.length_take, hul]
      rw [Nat.min_eq_left h3, ← Nat.add_mul, ← Nat.add_mul]
      congr 1
      omega
    have st := Step.move (w' := w.drew.alloc (.cells ((vs.take (len * i.size)).toArray ++ us.toArray ++ Builtin.zeroCells z.cells (grownCap w (len + ys.length) c r.elem - (len + ys.length))) r.elem)) hrel hsl hφ hH hfz
      (.row { elems := r.elems.take len ++ ys, elem := r.elem, sz := i.size, ext := none, leaf := true, fz := false }) ⟨w.heap.size, i.size, grownCap w (len + ys.length) c r.elem * i.size⟩ rfl rfl rfl (by simp) (fun b hb _ => heap_alloc_old w.drew _ b hb) (.inr (Nat.le_refl _))
      (fun φ' H' L => ⟨_, vs.take (len * i.size) ++ us, (Builtin.zeroCells z.cells (grownCap w (len + ys.length) c r.elem - (len + ys.length))).toList, heap_alloc_new w.drew _, hsize, rfl, fun e he => absurd he (by simp), hE'.later L, by simp, fun _ => imms_append (imms_take him _) iy, fun _ => rfl⟩)
    refine ⟨.slice (some ⟨w.heap.size, 0, none⟩) (len + ys.length) (grownCap w (len + ys.length) c r.elem), _, _, .inl (exec_append ho ?_), st, ?_, fun id' h1 h2 => hfin id' h1 h2 _⟩
    · rw [hs, hx]; exact hrun
    · exact ref_new (sz := i.size) (ext := grownCap w (len + ys.length) c r.elem * i.size) (by simp) hge rfl
theorem args2 {c : Call} {x y : Operand} (h : c.args.size = 2) (h0 : c.args[0]? = some x) (h1 : c.args[1]? = some y) : c.args = #[x, y] := by
  apply Array.ext
  · simpa using h
  · intro i hi hj
    have hj' : i < 2 := by simpa using hj
    rcases Nat.lt_or_ge i 1 with h2 | h2
    · have : i = 0 := by omega
      subst this
      have := Array.getElem?_eq_some_iff.1 h0
      obtain ⟨_, h3⟩ := this
      simpa using h3
    · have : i = 1 := by omega
      subst this
      obtain ⟨_, h3⟩ := Array.getElem?_eq_some_iff.1 h1
      simpa using h3
theorem appendD_sound {rd : Nat → Option Blk} (hrel : HeapRel w N0 φ H) (hrd : ∀ id b, rd id = some b → H id = some b) (hslot : ∀ j, slot ≤ j → j < slot + wide → φ j = none) {t elem : TypeId} {os ox : Operand} (ho : o.op = .call { callee := .builtin .append, args := #[os, ox], argTypes := #[t, t] })
    {i : TypeInfo} {z : Value} (hu : C.P.underlying t = some (.slice elem)) (hi : C.P.info? elem = some i) (hz : i.zero = some z) (hzs : z.cells.size = i.size) (h0 : 0 < i.size) {s x v : DV} {e : Eff}
    (hs : Rep w (Nn N0 φ H) φ s (a.eval os)) (hx : Rep w (Nn N0 φ H) φ x (a.eval ox)) (h : appendD slot rd elem i.size i.bytes s x = some (v, e)) : Gives C N0 slot a w φ H o v e := by
  unfold appendD at h
  simp only [bind, Option.bind_eq_some_iff] at h
  obtain ⟨ys, hy, h⟩ := h
  obtain ⟨iy, B, xc, hxv, hxl, hxm⟩ := elemsOf_rep hrel hrd hx hy
  split at h
  · exact absurd h (by simp)
  · rename_i hhd
    simp only [Bool.not_eq_true', Bool.not_eq_false] at hhd
    have hsame : ys.isEmpty = true → ∀ A n c, a.eval os = .slice A n c → n ≤ c → Gives C N0 slot a w φ H o s [] := fun he A n c hsv hnc => by
      have : ys = [] := by simpa using he
      subst this
      refine gives_val hrel (exec_append ho ?_) hs
      rw [hsv, hxv]
      exact run_append_nothing t o.type elem i hu hi A B n c xc hnc
    split at h
    · rename_i es tight
      have hs0 := hs
      unfold Rep at hs
      obtain ⟨ie, A, c, hsv, ht, hlc, hm⟩ := hs
      split at h
      · rename_i he
        simp only [Option.some.injEq, Prod.mk.injEq] at h
        obtain ⟨rfl, rfl⟩ := h
        exact hsame he A _ c hsv hlc
      · rename_i he
        have hne : ys ≠ [] := fun e => he (by simp [e])
        split at h
        · rename_i hc
          simp only [Bool.and_eq_true, roomy, decide_eq_true_eq] at hc
          obtain ⟨⟨htt, hhe⟩, hby, h63⟩ := hc
          simp only [Option.some.injEq, Prod.mk.injEq] at h
          obtain ⟨rfl, rfl⟩ := h
          have hce := ht htt
          obtain ⟨xb, xo, xs, us, rfl, hys, hXc⟩ := hxm.resolve_left hne
          have hxs := (headSz_all hys hhd).resolve_left hne
          subst hxs
          have hyl : 0 < ys.length := List.length_pos_iff.2 hne
          rcases hm with rfl | ⟨b, off, sz, vs, rfl, hb, hn, hE, hcell⟩
          · refine append_new (vs := []) (us := us) (A := A) (c := c) (X := ⟨xb, xo, none⟩) (xc := xc) hrel hslot ho hu hi hz h0 hsv hxv (by unfold RepEs; rfl) hys (.inl rfl) ⟨xb, xo, rfl, hXc⟩ (fun hA => by simpa using hce) hzs hne (by simp only [List.length_nil] at hce ⊢; omega) hby h63 ie iy
          · by_cases hes : es = []
            · subst hes
              exact append_new (vs := []) (us := us) (c := c) (X := ⟨xb, xo, none⟩) (xc := xc) hrel hslot ho hu hi hz h0 hsv hxv (by unfold RepEs; rfl) hys (.inl rfl) ⟨xb, xo, rfl, hXc⟩ (fun hA => by simpa using hce) hzs hne (by simp only [List.length_nil] at hce ⊢; omega) hby h63 ie iy
            · have := (headSz_all hE hhe).resolve_left hes
              subst this
              exact append_new (vs := vs) (us := us) (c := c) (X := ⟨xb, xo, none⟩) (xc := xc) hrel hslot ho hu hi hz h0 hsv hxv hE hys (.inr ⟨b, off, rfl, hcell⟩) ⟨xb, xo, rfl, hXc⟩ (fun hA => absurd hA (by simp)) hzs hne (by omega) hby h63 ie iy
        · exact absurd h (by simp)
    · rename_i id off len cap
      have hbind := Option.bind_eq_some_iff.1 h
      clear h
      obtain ⟨r, hr, h⟩ := hbind
      have hH := hrd _ _ (rowAt_some hr)
      obtain ⟨pb, cur, vs, rest, h1, h2, h3, h4, h5, h6, h7, h8, h9, h10⟩ := hrel.row hH
      have hs0 := hs
      unfold Rep at hs
      obtain ⟨h1c, q, hq, hv⟩ := hs
      rw [h1] at hq
      obtain ⟨c, hsv, hlc, hcap⟩ := hv pb (by simpa using hq.symm)
      split at h
      · rename_i he
        simp only [Option.some.injEq, Prod.mk.injEq] at h
        obtain ⟨rfl, rfl⟩ := h
        exact hsame he _ _ c hsv hlc
      · rename_i he
        have hne : ys ≠ [] := fun e => he (by simp [e])
        split at h
        · exact absurd h (by simp)
        · rename_i hc
          simp only [Bool.or_eq_true, Bool.not_eq_true', bne_iff_ne, ne_eq, decide_eq_true_eq, not_or, Bool.not_eq_false, Bool.not_eq_true, Decidable.not_not, Nat.not_lt, roomy, Bool.and_eq_true] at hc
          obtain ⟨⟨⟨⟨⟨hleaf, hfz⟩, hel⟩, hsz⟩, hby, h63⟩, hlen⟩ := hc
          obtain ⟨xb, xo, xs, us, rfl, hys, hXc⟩ := hxm.resolve_left hne
          have hxs := (headSz_all hys hhd).resolve_left hne
          subst hxs
          have him := h8 hleaf
          have hX : ∃ b off, (⟨xb, xo, none⟩ : Addr) = ⟨b, off, none⟩ ∧ CellsAt w b off us := ⟨xb, xo, rfl, hXc⟩
          cases hc0 : capOf r off cap with
          | some c0 =>
            simp only [hc0] at h
            have hcc : c = c0 ∧ (off + c) * pb.sz ≤ pb.ext := by
              unfold capOf at hc0
              split at hc0
              · simp only [Option.some.injEq] at hc0
                subst hc0
                exact hcap
              · obtain ⟨e0, he0, rfl⟩ := Option.map_eq_some_iff.1 hc0
                have h11 := h5 e0 he0
                have h12 : off + c = e0 := Nat.eq_of_mul_eq_mul_right (by omega : 0 < pb.sz) (hcap.trans (h11.trans (by rw [h4])))
                exact ⟨by omega, Nat.le_of_eq hcap⟩
            obtain ⟨rfl, hfit⟩ := hcc
            split at h
            · rename_i hroom
              simp only [Option.some.injEq, Prod.mk.injEq] at h
              obtain ⟨rfl, rfl⟩ := h
              refine append_place hrel ho hu hi hH hfz hleaf hel hsz h1 h2 h3 h4 h5 h6 h7 him hsv hxv hys hX iy hroom hfit hlen ?_
              unfold Rep
              exact ⟨rfl, _, h1, fun pb' hpb => by simp only [Option.some.injEq] at hpb; subst hpb; exact ⟨c, rfl, hroom, hcap⟩⟩
            · rename_i hroom
              simp only [Option.some.injEq, Prod.mk.injEq] at h
              obtain ⟨rfl, rfl⟩ := h
              have hl2 : ((r.elems.drop off).take len).length = len := by simp; omega
              have hcells : RepEs w (Nn N0 φ H) φ i.size ((r.elems.drop off).take len) ((vs.drop (off * i.size)).take (len * i.size)) := by rw [hsz] at h6; exact (h6.drop off).take len
              have hsub : CellsAt w pb.b (off * pb.sz) ((vs.drop (off * i.size)).take (len * i.size)) := by
                rw [h7] at h10
                have := h10.sub (k := off * i.size) (us := (vs.drop (off * i.size)).take (len * i.size)) (fun j y hj => by
                  rw [List.getElem?_take] at hj
                  split at hj
                  · rw [List.getElem?_drop] at hj
                    rw [List.getElem?_append_left (List.getElem?_eq_some_iff.1 hj).1]
                    exact hj
                  · exact absurd hj (by simp))
                rw [Nat.zero_add] at this
                rw [h4, hsz]
                exact this
              have := append_new (es := (r.elems.drop off).take len) (ys := ys) (A := some ⟨pb.b, off * pb.sz, none⟩) (c := c) hrel hslot ho hu hi hz h0 (by rw [hl2]; exact hsv) hxv hcells hys (.inr ⟨pb.b, _, rfl, hsub⟩) hX (fun hA => absurd hA (by simp)) hzs hne (by rw [hl2]; omega) (by rw [hl2]; exact hby) (by rw [hl2]; exact h63) (imms_take (imms_drop him _) _) iy
              rw [hl2] at this
              exact this
          | none =>
            simp only [hc0] at h
            have hcn : cap = none := by
              cases cap with
              | none => rfl
              | some c' => exact absurd hc0 (by simp [capOf])
            subst hcn
            by_cases hoff : off = 0
            · simp only [hoff, if_true] at h
              subst hoff
              simp only [Option.some.injEq, Prod.mk.injEq] at h
              obtain ⟨rfl, rfl⟩ := h
              simp only [Nat.zero_mul, Nat.zero_add] at hsv hcap hlen
              exact append_move hrel hslot ho hu hi hz hzs hH hfz hel hsz h1 h2 h3 h4 h6 h7 him hsv hxv hys hX iy hcap hlen hlc hby h63
            · simp [hoff] at h
    · exact absurd h (by simp)
end
end Go.PM
end
section
namespace Go.PM
open Go
set_option linter.unusedVariables false
section
variable {C : Cfg} {N0 : Nat → Prop} {slot : Nat} {a : Act} {w : World} {φ : Phi} {H : Heap} {o : Oper}
theorem bounds_sound {lo hi mx : Option Int} {len cap cap' l h : Nat} {m : Option Nat} (hb : bounds lo hi mx len cap' = some (l, h, m)) (hcap : cap' ≤ cap) (hlen : len ≤ cap') {isS : Bool} {vlo vhi vmx : Option Value}
    (e1 : ∀ x, lo = some x → ∃ k, vlo = some (.int k x)) (e1' : lo = none → vlo = none) (e2 : ∀ x, hi = some x → ∃ k, vhi = some (.int k x)) (e2' : hi = none → vhi = none) (e3 : ∀ x, mx = some x → ∃ k, vmx = some (.int k x)) (e3' : mx = none → vmx = none) :
    (Instr.sliceBounds isS len cap vlo vhi vmx).run C.P w = .ok (l, h, m.getD cap) w ∧ l ≤ h ∧ (∀ k, m = some k → h ≤ k ∧ k ≤ cap') ∧ (m = none → h ≤ cap') := by
  unfold bounds at hb
  obtain ⟨m1, h1, l1, hm1, hh1, hl1, he⟩ : ∃ m1 h1 l1, boundMx mx cap' = some m1 ∧ boundHi hi mx m1 len cap' = some h1 ∧ boundLo lo h1 = some l1 ∧ (l1, h1, m1) = (l, h, m) := by
    split at hb
    · exact absurd hb (by simp)
    · rename_i m1 hm1
      split at hb
      · exact absurd hb (by simp)
      · rename_i h1 hh1
        split at hb
        · exact absurd hb (by simp)
        · rename_i l1 hl1
          exact ⟨m1, h1, l1, hm1, hh1, hl1, by simpa using hb⟩
  simp only [Prod.mk.injEq] at he
  obtain ⟨rfl, rfl, rfl⟩ := he
  unfold boundMx at hm1
  unfold boundHi at hh1
  unfold boundLo at hl1
  have hM : (match vmx with | some v => Instr.sliceBound v cap (if isS then .slice3Acap else .slice3Alen) | none => (pure cap : Sem Nat)).run C.P w = .ok (m1.getD cap) w ∧ (∀ k, m1 = some k → k ≤ cap') := by
    cases mx with
    | none =>
      rw [e3' rfl]
      simp only [Option.some.injEq] at hm1
      subst hm1
      exact ⟨rfl, fun k hk => absurd hk (by simp)⟩
    | some x =>
      obtain ⟨k, hk⟩ := e3 x rfl
      rw [hk]
      simp only at hm1
      split at hm1
      · rename_i hc
        simp only [Bool.and_eq_true, decide_eq_true_eq] at hc
        simp only [Option.some.injEq] at hm1
        subst hm1
        exact ⟨run_sliceBound w k x cap _ hc.1 (by omega), fun k hk => by simp only [Option.some.injEq] at hk; omega⟩
      · exact absurd hm1 (by simp)
  have hHi : (match vhi, vmx with
      | some v, some _ => Instr.sliceBound v (m1.getD cap) .slice3B
      | some v, none => Instr.sliceBound v (m1.getD cap) (if isS then .sliceAcap else .sliceAlen)
      | none, none => (pure len : Sem Nat)
      | none, some _ => stuck "Slice: max without high").run C.P w = .ok h1 w ∧ (∀ k, m1 = some k → h1 ≤ k) ∧ (m1 = none → h1 ≤ cap') := by
    cases hi with
    | none =>
      simp only at hh1
      split at hh1
      · exact absurd hh1 (by simp)
      · rename_i hc
        simp only [Option.some.injEq] at hh1
        subst hh1
        cases mx with
        | none =>
          rw [e2' rfl, e3' rfl]
          simp only [Option.some.injEq] at hm1
          subst hm1
          exact ⟨rfl, fun k hk => absurd hk (by simp), fun _ => hlen⟩
        | some x => exact absurd rfl hc
    | some x =>
      obtain ⟨k, hk⟩ := e2 x rfl
      rw [hk]
      simp only at hh1
      split at hh1
      · rename_i hc
        simp only [Bool.and_eq_true, decide_eq_true_eq] at hc
        simp only [Option.some.injEq] at hh1
        subst hh1
        have hle : x ≤ (m1.getD cap : Nat) := by
          cases m1 with
          | none => simp only [Option.getD_none] at hc ⊢; omega
          | some k => simpa using hc.2
        refine ⟨?_, fun k hk => by subst hk; simp only [Option.getD_some] at hc; omega, fun hk => by subst hk; simp only [Option.getD_none] at hc; omega⟩
        cases vmx with
        | none => exact run_sliceBound w k x _ _ hc.1 hle
        | some v => exact run_sliceBound w k x _ _ hc.1 hle
      · exact absurd hh1 (by simp)
  have hLo : (match vlo with
      | some v => Instr.sliceBound v h1 (if vmx.isSome then .slice3C else .sliceB)
      | none => (pure 0 : Sem Nat)).run C.P w = .ok l1 w ∧ l1 ≤ h1 := by
    cases lo with
    | none =>
      rw [e1' rfl]
      simp only [Option.some.injEq] at hl1
      subst hl1
      exact ⟨rfl, Nat.zero_le _⟩
    | some x =>
      obtain ⟨k, hk⟩ := e1 x rfl
      rw [hk]
      simp only at hl1
      split at hl1
      · rename_i hc
        simp only [Bool.and_eq_true, decide_eq_true_eq] at hc
        simp only [Option.some.injEq] at hl1
        subst hl1
        exact ⟨run_sliceBound w k x _ _ hc.1 hc.2, by omega⟩
      · exact absurd hl1 (by simp)
  refine ⟨?_, hLo.2, fun k hk => ⟨hHi.2.1 k hk, hM.2 k hk⟩, hHi.2.2⟩
  have q1 := hM.1
  have q2 := hHi.1
  have q3 := hLo.1
  clear hM hHi hLo hb hm1 hh1 hl1 e1 e1' e2 e2' e3 e3'
  unfold Instr.sliceBounds
  cases vmx <;> cases vhi <;> cases vlo <;> dsimp only at q1 q2 q3 ⊢ <;> simp only [Sem.run_bind, q1, q2, q3, Result.andThen_ok] <;> first | rfl | exact absurd q2 (by simp)
theorem optInt_sound {ev : Operand → Option DV} {N : Nat → Prop} (hev : EvRel ev a w N φ) {x : Option Operand} {r : Option Int} (h : optInt ev x = some r) :
    (∀ n, r = some n → ∃ k, x.map a.eval = some (.int k n)) ∧ (r = none → x.map a.eval = none) := by
  unfold optInt at h
  split at h
  · simp only [Option.some.injEq] at h; subst h
    exact ⟨fun n hn => absurd hn (by simp), fun _ => rfl⟩
  · rename_i o'
    split at h
    · rename_i k n hn
      simp only [Option.some.injEq] at h; subst h
      have := hev _ _ hn
      unfold Rep at this
      exact ⟨fun m hm => ⟨k, by simp only [Option.some.injEq] at hm; subst hm; simp [this]⟩, fun hm => absurd hm (by simp)⟩
    · exact absurd h (by simp)
theorem exec_slice {t : TypeId} {x : Operand} {lo hi mx : Option Operand} (ho : o.op = .slice t x lo hi mx) {v : Value} {w' : World}
    (h : (Instr.sliceAt t (a.eval x) (lo.map a.eval) (hi.map a.eval) (mx.map a.eval)).run C.P w = .ok v w') : (execOp a.eval o).run C.P w = .ok (.value v) w' := by
  simp only [execOp, ho, Sem.run_bind, h, Result.andThen_ok, Sem.run_pure]
theorem run_cut {t e : TypeId} {i : TypeInfo} (hu : C.P.underlying t = some (.slice e)) (hi : C.P.info? e = some i) {A : Option Addr} {len cap l h m : Nat} {lo hi' mx : Option Value}
    (hb : (Instr.sliceBounds true len cap lo hi' mx).run C.P w = .ok (l, h, m) w) :
    (Instr.sliceAt t (.slice A len cap) lo hi' mx).run C.P w = .ok (.slice (if m = l then A else A.map (·.add (l * i.size))) (h - l) (m - l)) w := by
  simp only [Instr.sliceAt, Instr.slice, Sem.run_bind, run_underlying hu, Result.andThen_ok, hb, sizeOf, typeInfo, run_program, hi, Sem.run_pure]
theorem take_drop_get {vs : List Value} {k n j : Nat} {x : Value} (h : ((vs.drop k).take n)[j]? = some x) : vs[k + j]? = some x := by
  rw [List.getElem?_take] at h
  split at h
  · rwa [List.getElem?_drop] at h
  · exact absurd h (by simp)
theorem sliceD_sound {rd : Nat → Option Blk} (hrel : HeapRel w N0 φ H) (hrd : ∀ id b, rd id = some b → H id = some b) {t e : TypeId} {ox : Operand} {olo ohi omx : Option Operand} (ho : o.op = .slice t ox olo ohi omx)
    {i : TypeInfo} (hu : C.P.underlying t = some (.slice e)) (hi : C.P.info? e = some i) (h0 : 0 < i.size) {x d : DV} {lo hi' mx : Option Int} (hx : Rep w (Nn N0 φ H) φ x (a.eval ox))
    (e1 : (∀ n, lo = some n → ∃ k, olo.map a.eval = some (.int k n)) ∧ (lo = none → olo.map a.eval = none))
    (e2 : (∀ n, hi' = some n → ∃ k, ohi.map a.eval = some (.int k n)) ∧ (hi' = none → ohi.map a.eval = none))
    (e3 : (∀ n, mx = some n → ∃ k, omx.map a.eval = some (.int k n)) ∧ (mx = none → omx.map a.eval = none))
    (h : sliceD rd i.size x lo hi' mx = some d) : Gives C N0 slot a w φ H o d [] := by
  unfold sliceD at h
  split at h
  · rename_i es tt
    split at h
    · exact absurd h (by simp)
    · rename_i hhd
      simp only [Bool.not_eq_true', Bool.not_eq_false] at hhd
      have hx0 := hx
      unfold Rep at hx
      obtain ⟨ie, A, c, hv, htt, hlc, hm⟩ := hx

      have piece : ∀ (l h c' : Nat) (t' : Bool), l ≤ h → h ≤ es.length → h - l ≤ c' → (t' = true → c' = h - l) → (h = l ∨ c' + l ≠ l) → ∀ m, m - l = c' → (h = l ∨ m ≠ l) →
          Rep w (Nn N0 φ H) φ (.list ((es.drop l).take (h - l)) t') (.slice (if m = l then A else A.map (·.add (l * i.size))) (h - l) c') := by
        intro l h c' t' hlh hhe hc' ht' _ m hmc hmne
        have hlen : ((es.drop l).take (h - l)).length = h - l := by simp; omega
        unfold Rep
        refine ⟨imms_take (imms_drop ie _) _, _, c', by rw [hlen], fun q => by rw [hlen]; exact ht' q, by rw [hlen]; exact hc', ?_⟩
        by_cases hz : h = l
        · left
          rw [hz, Nat.sub_self, List.take_zero]
        · right
          rcases hm with rfl | ⟨b, off, sz, vs, rfl, hb, hn, hE, hcell⟩
          · simp at hhe; omega
          · have hne : es ≠ [] := fun q => by subst q; simp at hhe; omega
            have hsz := (headSz_all hE hhd).resolve_left hne
            subst hsz
            refine ⟨b, off + l * i.size, i.size, (vs.drop (l * i.size)).take ((h - l) * i.size), ?_, hb, hn, (hE.drop l).take _, hcell.sub fun j y hj => take_drop_get hj⟩
            rw [if_neg (hmne.resolve_left hz)]
            simp [Addr.add_lit]
      split at h
      · rename_i l hh hbd
        simp only [Option.some.injEq] at h; subst h
        obtain ⟨k1, k2, k3, k4⟩ := bounds_sound (C := C) (w := w) hbd hlc (Nat.le_refl _) (isS := true) e1.1 e1.2 e2.1 e2.2 e3.1 e3.2
        have k5 := k4 rfl
        refine gives_val hrel (exec_slice ho ?_) (piece l hh (c - l) (tt && hh == es.length) k2 k5 (by omega) (fun q => ?_) (by omega) c rfl (by omega))
        · rw [hv]; exact run_cut hu hi k1
        · simp only [Bool.and_eq_true, beq_iff_eq] at q
          have := htt q.1
          omega
      · rename_i l hh m hbd
        simp only [Option.some.injEq] at h; subst h
        obtain ⟨k1, k2, k3, k4⟩ := bounds_sound (C := C) (w := w) hbd hlc (Nat.le_refl _) (isS := true) e1.1 e1.2 e2.1 e2.2 e3.1 e3.2
        obtain ⟨k5, k6⟩ := k3 m rfl
        refine gives_val hrel (exec_slice ho ?_) (piece l hh (m - l) (hh == m) k2 (by omega) (by omega) (fun q => ?_) (by omega) m rfl (by omega))
        · rw [hv]; exact run_cut hu hi k1
        · simp only [beq_iff_eq] at q
          omega
      · exact absurd h (by simp)
  · rename_i id off len cap
    split at h
    · exact absurd h (by simp)
    · rename_i r hr
      split at h
      · exact absurd h (by simp)
      · rename_i hc
        simp only [Bool.or_eq_true, bne_iff_ne, ne_eq, decide_eq_true_eq, not_or, Decidable.not_not, Nat.not_lt] at hc
        obtain ⟨hsz, hlen⟩ := hc
        obtain ⟨pb, cur, vs, rest, h1, h2, h3, h4, h5, h6, h7, h8, h9, h10⟩ := hrel.row (hrd _ _ (rowAt_some hr))
        have hx0 := hx
        unfold Rep at hx
        obtain ⟨_, q, hq, hv⟩ := hx
        rw [h1] at hq
        obtain ⟨c, hv, hlc, hcap⟩ := hv pb (by simpa using hq.symm)
        split at h
        · rename_i l hh m hbd
          have hcc : (capOf r off cap).getD len ≤ c ∧ len ≤ (capOf r off cap).getD len := by
            unfold capOf
            cases cap with
            | some c' => simp only [Option.getD_some]; dsimp only at hcap; omega
            | none =>
              dsimp only at hcap ⊢
              cases hext : r.ext with
              | none => simp only [Option.map_none, Option.getD_none]; omega
              | some e0 =>
                simp only [Option.map_some, Option.getD_some]
                have h11 := h5 e0 hext
                by_cases hz : pb.sz = 0
                · omega
                · have h12 : off + c = e0 := Nat.eq_of_mul_eq_mul_right (by omega : 0 < pb.sz) (hcap.trans (h11.trans (by rw [h4])))
                  omega
          obtain ⟨k1, k2, k3, k4⟩ := bounds_sound (C := C) (w := w) hbd hcc.1 hcc.2 (isS := true) e1.1 e1.2 e2.1 e2.2 e3.1 e3.2
          have hrun := run_cut (A := some ⟨pb.b, off * pb.sz, none⟩) (len := len) hu hi k1
          split at h
          · rename_i hz
            simp only [Bool.and_eq_true, decide_eq_true_eq, beq_iff_eq] at hz
            simp only [Option.some.injEq] at h; subst h
            refine gives_val hrel (exec_slice ho (by rw [hv]; exact hrun)) ?_
            unfold Rep
            refine ⟨rfl, _, m.getD c - l, by rw [hz.2, Nat.sub_self]; rfl, fun q => absurd q (by simp), Nat.zero_le _, .inl rfl⟩
          · rename_i hz
            simp only [Bool.and_eq_true, decide_eq_true_eq, beq_iff_eq, not_and] at hz
            split at h
            · rename_i hfit
              simp only [Option.some.injEq] at h; subst h
              refine gives_val hrel (exec_slice ho (by rw [hv]; exact hrun)) ?_
              unfold Rep
              refine ⟨rfl, _, h1, fun pb' hpb => ?_⟩
              simp only [Option.some.injEq] at hpb; subst hpb
              have hmc : hh ≤ m.getD c := by
                cases m with
                | none => have := k4 rfl; simp only [Option.getD_none]; omega
                | some k => simpa using (k3 k rfl).1
              have hmc2 : m.getD c ≤ c := by
                cases m with
                | none => simp
                | some k => have := (k3 k rfl).2; simp only [Option.getD_some]; omega
              refine ⟨m.getD c - l, ?_, by omega, ?_⟩
              · congr 1
                split
                · rename_i hml
                  have : l = 0 := by
                    rcases Nat.eq_zero_or_pos l with h0 | h0
                    · exact h0
                    · exact absurd (by omega : hh = l) (hz h0)
                  subst this
                  simp
                · simp only [Option.map_some, Addr.add_lit, Option.some.injEq]
                  rw [h4, hsz, Nat.add_mul]
              · cases m with
                | some k =>
                  simp only [Option.getD_some, true_and]
                  have hk := (k3 k rfl)
                  have : (off + c) * pb.sz ≤ pb.ext := by
                    cases cap with
                    | some c' => exact hcap.2
                    | none => exact Nat.le_of_eq hcap
                  exact Nat.le_trans (Nat.mul_le_mul_right _ (by omega)) this
                | none =>
                  simp only [Option.getD_none]
                  cases cap with
                  | some c' =>
                    simp only [Option.map_some]
                    obtain ⟨rfl, h12⟩ := hcap
                    have := k4 rfl
                    exact ⟨rfl, by rw [show off + l + (c - l) = off + c by omega]; exact h12⟩
                  | none =>
                    simp only [Option.map_none]
                    have := k4 rfl
                    rw [show off + l + (c - l) = off + c by omega]
                    exact hcap
            · exact absurd h (by simp)
        · exact absurd h (by simp)
  · exact absurd h (by simp)
end
end Go.PM
end
section
namespace Go.PM
open Go
set_option linter.unusedVariables false
section
variable {C : Cfg} {N0 : Nat → Prop} {slot : Nat} {a : Act} {w : World} {φ : Phi} {H : Heap} {o : Oper}
theorem bytes_get (t : ByteArray) (i : Nat) : t[i]? = t.data.toList[i]? := by
  rw [Array.getElem?_toList]
  by_cases h : i < t.size
  · rw [getElem?_pos t i h, Array.getElem?_eq_getElem h]
    rfl
  · rw [getElem?_neg t i h, Array.getElem?_eq_none (by simpa using h)]
theorem size_data (t : ByteArray) : t.data.toList.length = t.size := by simp
theorem extract_data (t : ByteArray) (l h : Nat) (hl : l ≤ h) (hh : h ≤ t.size) : (t.extract l h).data.toList = (t.data.toList.drop l).take (h - l) := by
  rw [ByteArray.data_extract]
  simp [List.extract_eq_take_drop]
theorem sliceS_sound (hrel : HeapRel w N0 φ H) {t : TypeId} {ox : Operand} {olo ohi omx : Option Operand} (ho : o.op = .slice t ox olo ohi omx)
    (hu : C.P.underlying t = some .string) {x d : DV} {lo hi' mx : Option Int} (hx : Rep w (Nn N0 φ H) φ x (a.eval ox))
    (e1 : (∀ n, lo = some n → ∃ k, olo.map a.eval = some (.int k n)) ∧ (lo = none → olo.map a.eval = none))
    (e2 : (∀ n, hi' = some n → ∃ k, ohi.map a.eval = some (.int k n)) ∧ (hi' = none → ohi.map a.eval = none))
    (e3 : (∀ n, mx = some n → ∃ k, omx.map a.eval = some (.int k n)) ∧ (mx = none → omx.map a.eval = none))
    (h : sliceS x lo hi' mx = some d) : Gives C N0 slot a w φ H o d [] := by
  unfold sliceS at h
  split at h
  · rename_i s
    split at h
    · rename_i l hh m hbd
      simp only [Option.some.injEq] at h; subst h
      unfold Rep at hx
      obtain ⟨tb, hv, hs⟩ := hx
      have hsl : s.length = tb.size := by rw [← hs, size_data]
      have hm : omx.map a.eval = none := e3.2 rfl
      obtain ⟨k1, k2, k3, k4⟩ := bounds_sound (C := C) (w := w) hbd (Nat.le_refl _) (Nat.le_refl _) (isS := false) e1.1 e1.2 e2.1 e2.2 e3.1 e3.2
      have hmn : m = none := by
        unfold bounds boundMx at hbd
        split at hbd
        · exact absurd hbd (by simp)
        · rename_i m1 hm1
          simp only [Option.some.injEq] at hm1
          subst hm1
          split at hbd
          · exact absurd hbd (by simp)
          · split at hbd
            · exact absurd hbd (by simp)
            · simp only [Option.some.injEq, Prod.mk.injEq] at hbd
              exact hbd.2.2.symm
      subst hmn
      have k5 := k4 rfl
      rw [hsl] at k1 k5
      refine gives_val hrel (x := .string (tb.extract l hh)) (exec_slice ho ?_) ?_
      · rw [hv, hm]
        rw [hm] at k1
        simp only [Instr.sliceAt, Instr.slice, Sem.run_bind, run_underlying hu, Result.andThen_ok, Option.isSome_none, Bool.false_eq_true, if_false, k1, Sem.run_pure]
      · unfold Rep
        exact ⟨_, rfl, by rw [extract_data tb l hh k2 k5, hs]⟩
    · exact absurd h (by simp)
  · exact absurd h (by simp)
theorem run_sizeOf {t : TypeId} {i : TypeInfo} (hi : C.P.info? t = some i) : (sizeOf t).run C.P w = .ok i.size w := by
  simp [sizeOf, typeInfo, hi]
theorem size_info {t : TypeId} {n : Nat} (h : C.size t = some n) : ∃ i, C.P.info? t = some i ∧ i.size = n := by
  unfold Cfg.size at h
  obtain ⟨i, h1, h2⟩ := Option.map_eq_some_iff.1 h
  exact ⟨i, h1, h2⟩
theorem ptr_live {rd : Nat → Option Blk} (hrel : HeapRel w N0 φ H) (hrd : ∀ id b, rd id = some b → H id = some b) {id ix off : Nat} {v : Value} (hlive : (rd id).isSome = true) (hx : Rep w (Nn N0 φ H) φ (.ptr id ix off) v) :
    ∃ pb, φ id = some (some pb) ∧ v = .pointer (some ⟨pb.b, ix * pb.sz + off, none⟩) := by
  obtain ⟨b, hb⟩ := Option.isSome_iff_exists.1 hlive
  obtain ⟨pb, h1, _⟩ := hrel.here id b (hrd _ _ hb)
  unfold Rep at hx
  obtain ⟨_, q, hq, hv⟩ := hx
  rw [h1] at hq
  exact ⟨pb, h1, hv pb (by simpa using hq.symm)⟩
theorem ptr_rep {N : Nat → Prop} {id ix off : Nat} {pb : PB} (h : φ id = some (some pb)) : Rep w N φ (.ptr id ix off) (.pointer (some ⟨pb.b, ix * pb.sz + off, none⟩)) := by
  unfold Rep
  exact ⟨rfl, _, h, fun pb' hpb => by simp only [Option.some.injEq] at hpb; subst hpb; rfl⟩
theorem indexAddrD_sound {rd : Nat → Option Blk} (hrel : HeapRel w N0 φ H) (hrd : ∀ id b, rd id = some b → H id = some b) {t : TypeId} {x d : DV} {v : Value} {k : IntKind} {i : Int} (hx : Rep w (Nn N0 φ H) φ x v)
    (h : C.indexAddrD rd t x i = some d) : ∃ y, Rep w (Nn N0 φ H) φ d y ∧ (Instr.indexAt t v (.int k i)).run C.P w = .ok y w := by
  unfold Cfg.indexAddrD at h
  split at h
  · rename_i elem hu
    split at h
    · rename_i es tt
      split at h
      · rename_i h0
        split at h
        · rename_i e he
          split at h
          · rename_i hsz
            simp only [Option.some.injEq] at h; subst h
            obtain ⟨ti, hti, hts⟩ := size_info hsz
            unfold Rep at hx
            obtain ⟨ie, A, c, rfl, htt, hlc, hm⟩ := hx
            have hlt : i.toNat < es.length := (List.getElem?_eq_some_iff.1 he).1
            rcases hm with rfl | ⟨b, off, sz, vs, rfl, hb, hn, hE, hcell⟩
            · simp at hlt
            · have hcell' : CellsAt w b off (vs ++ []) := by simpa using hcell
              obtain ⟨y, m1, m2, m3, m4, m5, m6⟩ := elem_cells hE hcell' he
              have hsz' : sz = ti.size := by
                have := m5.len
                rw [Array.length_toList] at this
                omega
              subst hsz'
              refine ⟨.pointer (some ⟨b, off + i.toNat * ti.size, none⟩), ?_, ?_⟩
              · unfold Rep
                exact ⟨imms_mem ie (List.mem_of_getElem? he), m2, b, off + i.toNat * ti.size, y, by simp, hb, hn, m1, m4, m6⟩
              · have hi2 : 0 ≤ i ∧ i < es.length := ⟨h0, by omega⟩
                simp only [Instr.indexAt, asIntOf, Sem.run_bind, Sem.run_pure, Result.andThen_ok, run_underlying hu, hi2, and_self, if_true, run_sizeOf hti, Addr.add_lit]
          · exact absurd h (by simp)
        · exact absurd h (by simp)
      · exact absurd h (by simp)
    · rename_i id off len cap
      split at h
      · rename_i hc
        simp only [Bool.and_eq_true, decide_eq_true_eq] at hc
        split at h
        · rename_i r hr
          split at h
          · rename_i hsz
            simp only [Option.some.injEq] at h; subst h
            obtain ⟨ti, hti, hts⟩ := size_info hsz
            obtain ⟨pb, cur, vs, rest, h1, h2, h3, h4, h5, h6, h7, h8, h9, h10⟩ := hrel.row (hrd _ _ (rowAt_some hr))
            unfold Rep at hx
            obtain ⟨_, q, hq, hv⟩ := hx
            rw [h1] at hq
            obtain ⟨c, rfl, hlc, hcap⟩ := hv pb (by simpa using hq.symm)
            refine ⟨.pointer (some ⟨pb.b, (off + i.toNat) * pb.sz + 0, none⟩), ?_, ?_⟩
            · unfold Rep
              exact ⟨rfl, _, h1, fun pb' hpb => by simp only [Option.some.injEq] at hpb; subst hpb; rfl⟩
            · simp only [Instr.indexAt, asIntOf, Sem.run_bind, Sem.run_pure, Result.andThen_ok, run_underlying hu, hc, and_self, if_true, run_sizeOf hti, Addr.add_lit]
              congr 4
              rw [h4, hts, Nat.add_mul, Nat.add_zero]
          · exact absurd h (by simp)
        · exact absurd h (by simp)
      · exact absurd h (by simp)
    · exact absurd h (by simp)
  · rename_i n elem hu
    split at h
    · rename_i hc
      simp only [Bool.and_eq_true, decide_eq_true_eq] at hc
      split at h
      · rename_i m id ix off hsz
        split at h
        · rename_i hlive
          simp only [Option.some.injEq] at h; subst h
          obtain ⟨ti, hti, rfl⟩ := size_info hsz
          obtain ⟨pb, h1, rfl⟩ := ptr_live hrel hrd hlive hx
          refine ⟨.pointer (some ⟨pb.b, ix * pb.sz + (off + i.toNat * ti.size), none⟩), ptr_rep h1, ?_⟩
          simp only [Instr.indexAt, asIntOf, Sem.run_bind, Sem.run_pure, Result.andThen_ok, run_underlying hu, Instr.sureAddr, hc, and_self, if_true, run_sizeOf hti, Addr.add_lit]
          congr 4
          omega
        · exact absurd h (by simp)
      · rename_i m e off hsz
        simp only [Option.some.injEq] at h; subst h
        obtain ⟨ti, hti, rfl⟩ := size_info hsz
        unfold Rep at hx
        obtain ⟨hi, hs, b, o', x, rfl, hb, hn, h1, h2, h3⟩ := hx
        refine ⟨.pointer (some ⟨b, o' + (off + i.toNat * ti.size), none⟩), ?_, ?_⟩
        · unfold Rep
          exact ⟨hi, hs, b, o', x, rfl, hb, hn, h1, h2, h3⟩
        · simp only [Instr.indexAt, asIntOf, Sem.run_bind, Sem.run_pure, Result.andThen_ok, run_underlying hu, Instr.sureAddr, hc, and_self, if_true, run_sizeOf hti, Addr.add_lit]
          congr 4
          omega
      · exact absurd h (by simp)
    · exact absurd h (by simp)
  · exact absurd h (by simp)
theorem indexD_sound {N : Nat → Prop} {t : TypeId} {x d : DV} {v : Value} {k : IntKind} {i : Int} (hx : Rep w N φ x v) (h : C.indexD t x i = some d) : ∃ y, Rep w N φ d y ∧ (Instr.index t v (.int k i)).run C.P w = .ok y w := by
  unfold Cfg.indexD at h
  split at h
  · rename_i n elem cs hu
    split at h
    · rename_i hc
      simp only [Bool.and_eq_true, decide_eq_true_eq] at hc
      obtain ⟨m, hm, h⟩ := Option.bind_eq_some_iff.1 h
      obtain ⟨ti, hti, rfl⟩ := size_info hm
      unfold Rep at hx
      obtain ⟨vs, rfl, h1, h2⟩ := hx
      obtain ⟨y, h3, h4, _⟩ := part_rep h1 h2 h
      refine ⟨y, h3, ?_⟩
      simp only [Instr.index, asIntOf, Sem.run_bind, Sem.run_pure, Result.andThen_ok, run_underlying hu, hc, and_self, if_true, run_sizeOf hti]
      simpa using h4
    · exact absurd h (by simp)
  · rename_i s hu
    split at h
    · rename_i hc
      obtain ⟨b, hb, rfl⟩ := Option.map_eq_some_iff.1 h
      unfold Rep at hx
      obtain ⟨tb, rfl, rfl⟩ := hx
      refine ⟨.int .u8 b.toNat, by unfold Rep; rfl, ?_⟩
      simp only [Instr.index, asIntOf, Sem.run_bind, Sem.run_pure, Result.andThen_ok, run_underlying hu, hc, if_true, bytes_get, hb]
    · exact absurd h (by simp)
  · exact absurd h (by simp)
theorem field_some {t : TypeId} {f : Nat} {fd : Field} (h : C.field t f = some fd) : ∃ fs, C.P.underlying t = some (.struct fs) ∧ fs[f]? = some fd := by
  unfold Cfg.field at h
  split at h
  · rename_i fs hu
    exact ⟨fs, hu, h⟩
  · exact absurd h (by simp)
theorem fieldAt_run {t : TypeId} {f : Nat} {fd : Field} (h : C.field t f = some fd) (hn : C.nonzero fd.type = true) (b k : Nat) : (Instr.fieldAt t (.pointer (some ⟨b, k, none⟩)) f).run C.P w = .ok (.pointer (some ⟨b, k + fd.offset, none⟩)) w := by
  obtain ⟨fs, hu, hf⟩ := field_some h
  unfold Cfg.nonzero at hn
  split at hn
  · rename_i i hi
    simp only [bne_iff_ne, ne_eq] at hn
    simp only [Instr.fieldAt, Sem.run_bind, run_underlying hu, Result.andThen_ok, hf, Instr.sureAddr, Sem.run_pure, fieldPlace, run_sizeOf hi, hn, if_false, Addr.add_lit]
  · exact absurd hn (by simp)
theorem field_sound {N : Nat → Prop} {t : TypeId} {f : Nat} {fd : Field} {cs : List DV} {d : DV} {v : Value} (hf : C.field t f = some fd) (hx : Rep w N φ (.agg cs) v) (h : C.part fd.type cs fd.offset = some d) : ∃ y, Rep w N φ d y ∧ (Instr.field t v f).run C.P w = .ok y w := by
  obtain ⟨fs, hu, hf⟩ := field_some hf
  unfold Rep at hx
  obtain ⟨vs, rfl, h1, h2⟩ := hx
  obtain ⟨y, h3, h4, _⟩ := part_rep h1 h2 h
  refine ⟨y, h3, ?_⟩
  simp only [Instr.field, Sem.run_bind, run_underlying hu, Result.andThen_ok, hf, asAgg, Sem.run_pure]
  simpa using h4
theorem fill_cells {N : Nat → Prop} {place place' : Nat → Option (Nat × Nat)} (hpl : ∀ i p, place i = some p → place' i = some p) : ∀ (ps : List (Nat × DV)) (vs : List (Nat × Value)) (ds cs' : List DV) (cs : Array Value),
    RepL w N φ ds cs.toList → One cs.toList → ps.map (·.1) = vs.map (·.1) → RepL w N φ (ps.map (·.2)) (vs.map (·.2)) → fillParts place ds ps = some cs' →
    ∃ cs2, Instr.fill place' cs vs = some cs2 ∧ RepL w N φ cs' cs2.toList ∧ One cs2.toList
  | [], vs, ds, cs', cs, h, h1, hi, hr, hf => by
    cases vs with
    | nil => simp only [fillParts, Option.some.injEq] at hf; subst hf; exact ⟨cs, rfl, h, h1⟩
    | cons x xs => exact absurd hi (by simp)
  | (i, d) :: ps, vs, ds, cs', cs, h, h1, hi, hr, hf => by
    cases vs with
    | nil => exact absurd hi (by simp)
    | cons x xs =>
      obtain ⟨j, v⟩ := x
      simp only [List.map_cons, List.cons.injEq] at hi
      obtain ⟨rfl, hi⟩ := hi
      simp only [List.map_cons] at hr
      unfold RepL at hr
      obtain ⟨y, r, he, h2, h3⟩ := hr
      simp only [List.cons.injEq] at he
      obtain ⟨rfl, rfl⟩ := he
      simp only [fillParts] at hf
      split at hf
      · exact absurd hf (by simp)
      · rename_i off n hp
        split at hf
        · rename_i hc
          simp only [Bool.and_eq_true, decide_eq_true_eq] at hc
          obtain ⟨⟨hst, hn⟩, hle⟩ := hc
          obtain ⟨hd, hd1⟩ := h2.cells hst
          have hvl := hd.len
          rw [Array.length_toList, hn] at hvl
          have hcl := h.len
          rw [Array.length_toList] at hcl
          have hput := foldl_putA off v.cells cs (by omega)
          have hnew : RepL w N φ (putCells ds off d.cells) (cs.toList.take off ++ v.cells.toList ++ cs.toList.drop (off + v.cells.size)) := by
            unfold putCells
            rw [hn, hvl]
            exact ((h.take _).append hd).append (h.drop _)
          obtain ⟨cs2, m1, m2, m3⟩ := fill_cells hpl ps xs _ cs' _ (by rw [hput]; exact hnew) (by rw [hput]; exact One.append (One.append (h1.take _) hd1) (h1.drop _)) hi h3 hf
          refine ⟨cs2, ?_, m2, m3⟩
          simp only [Instr.fill, hpl i _ hp]
          rw [if_neg (by simp [hvl]; omega)]
          exact m1
        · exact absurd hf (by simp)
end
end Go.PM
end
section
namespace Go.PM
open Go
set_option linter.unusedVariables false
section
variable {C : Cfg} {N0 : Nat → Prop} {slot : Nat} {a : Act} {w : World} {φ : Phi} {H : Heap} {o : Oper}
theorem mapO_mapM {α β : Type} (f : α → Option β) : ∀ (l : List α), mapO f l = l.mapM f
  | [] => rfl
  | x :: l => by
    simp only [mapO, List.mapM_cons, Option.bind_eq_bind, Option.pure_def, ← mapO_mapM f l]
    cases f x <;> cases mapO f l <;> rfl
theorem build_sound (hrel : HeapRel w N0 φ H) {ev : Operand → Option DV} (hev : EvRel ev a w (Nn N0 φ H) φ) {t : TypeId} {parts : Array (Nat × Operand)} (ho : o.op = .build t parts) {z : DV} {ps : List (Nat × DV)} {cs : List DV}
    (hz : C.zero t = some z) (hps : mapO (fun p : Nat × Operand => (ev p.2).map fun v => (p.1, v)) parts.toList = some ps)
    (h : (∃ fs pl, C.P.underlying t = some (.struct fs) ∧ mapO (fun f : Field => (C.size f.type).map fun n => (f.offset, n)) fs.toList = some pl ∧ fillParts (fun i => pl[i]?) z.cells ps = some cs) ∨
      (∃ k elem n, C.P.underlying t = some (.array k elem) ∧ C.size elem = some n ∧ fillParts (fun i => some (i * n, n)) z.cells ps = some cs)) : Gives C N0 slot a w φ H o (.agg cs) [] := by
  obtain ⟨i, v, h1, h2, h3, h4, h5⟩ := zero_rep (w := w) (N := Nn N0 φ H) (φ := φ) hz
  obtain ⟨hc, hc1⟩ := h3.cells h5
  obtain ⟨p1, p2⟩ := mapO_parts hev hps
  have fin : ∀ cells : Array Value, C.P.built t (parts.toList.map fun p => (p.1, a.eval p.2)) = some cells → RepL w (Nn N0 φ H) φ cs cells.toList → One cells.toList → Gives C N0 slot a w φ H o (.agg cs) [] := by
    intro cells hb hr h1
    refine gives_val hrel (x := .agg cells) ?_ (by unfold Rep; exact ⟨cells, rfl, hr, h1⟩)
    have := run_build (P := C.P) w t (parts.map fun p => (p.1, a.eval p.2)) cells (by simpa using hb)
    simp only [execOp, ho, Sem.run_bind, this, Result.andThen_ok, Sem.run_pure]
  rcases h with ⟨fs, pl, hu, hpl, hf⟩ | ⟨k, elem, n, hu, hn, hf⟩
  · obtain ⟨cs2, m1, m2, m3⟩ := fill_cells (place' := fun i => pl.toArray[i]?) (fun i p hp => by simpa using hp) ps (parts.toList.map fun p => (p.1, a.eval p.2)) z.cells cs v.cells hc hc1 p1 p2 hf
    refine fin cs2 ?_ m2 m3
    rw [mapO_mapM] at hpl
    have hpl' : fs.toList.mapM (fun f => (C.P.info? f.type).map fun i => (f.offset, i.size)) = some pl := by
      rw [← hpl]
      congr 1
      funext f
      unfold Cfg.size
      cases C.P.info? f.type <;> rfl
    simp only [Program.built, h1, hu, h2, hpl', m1]
  · obtain ⟨ti, hti, rfl⟩ := size_info hn
    obtain ⟨cs2, m1, m2, m3⟩ := fill_cells (place' := fun i => some (i * ti.size, ti.size)) (fun i p hp => hp) ps (parts.toList.map fun p => (p.1, a.eval p.2)) z.cells cs v.cells hc hc1 p1 p2 hf
    exact fin cs2 (by simp only [Program.built, h1, hu, h2, hti, m1]) m2 m3
theorem ltBytes_eq : ∀ (x y : List UInt8), ltBytes x y = Op.bytesLess x y
  | [], [] => rfl
  | _ :: _, [] => rfl
  | [], _ :: _ => rfl
  | a :: x, b :: y => by simp only [ltBytes, Op.bytesLess, ltBytes_eq x y]
theorem toList_data (t : ByteArray) : t.toList = t.data.toList := by
  have h : ∀ (n i : Nat) (r : List UInt8), t.size - i = n → ByteArray.toList.loop t i r = r.reverse ++ t.data.toList.drop i := by
    intro n
    induction n with
    | zero =>
      intro i r h
      unfold ByteArray.toList.loop
      rw [if_neg (by omega), List.drop_eq_nil_of_le (by rw [size_data]; omega), List.append_nil]
    | succ n ih =>
      intro i r h
      unfold ByteArray.toList.loop
      rw [if_pos (by omega), ih (i + 1) _ (by omega)]
      have hi : i < t.data.toList.length := by rw [size_data]; omega
      rw [List.drop_eq_getElem_cons hi, List.reverse_cons, List.append_assoc]
      congr 2
      have : t.get! i = t.data.toList[i] := by
        have hi' : i < t.data.size := by simpa using hi
        show t.data[i]! = _
        rw [getElem!_pos t.data i hi', Array.getElem_toList]
      rw [this]
      rfl
  have := h t.size 0 [] rfl
  simpa [ByteArray.toList] using this
theorem binD_sound {N : Nat → Prop} {op : BinOp} {t : TypeId} {ox oy : Operand} {x y d : DV} {v u : Value} (hx : Rep w N φ x v) (hy : Rep w N φ y u) (h : binD op x y = some d) :
    ∃ r, Rep w N φ d r ∧ (do eqGuard op t ox oy v u; binOp op t v u : Sem Value).run C.P w = .ok r w := by
  unfold binD at h
  split at h
  · rename_i k a1 k' b1
    unfold Rep at hx hy
    subst hx
    subst hy
    have hg : (eqGuard op t ox oy (.int k a1) (.int k' b1)).run C.P w = .ok () w := by
      unfold eqGuard
      cases op <;> rfl
    simp only [Sem.run_bind, hg, Result.andThen_ok]
    split at h
    · split at h
      · exact absurd h (by simp)
      · rename_i hb
        simp only [Option.some.injEq] at h; subst h
        exact ⟨_, by unfold Rep; rfl, by simp [binOp, Op.shift, hb]⟩
    · split at h
      · exact absurd h (by simp)
      · rename_i hb
        simp only [Option.some.injEq] at h; subst h
        exact ⟨_, by unfold Rep; rfl, by simp [binOp, Op.shift, hb]⟩
    · rename_i hs1 hs2
      split at h
      · exact absurd h (by simp)
      · rename_i hk
        simp only [ne_eq, Decidable.not_not] at hk
        subst hk
        cases op <;> simp only at h <;>
          first
          | exact absurd rfl hs1
          | exact absurd rfl hs2
          | (simp only [Option.some.injEq] at h; subst h; exact ⟨_, by unfold Rep; rfl, by simp [binOp, Op.intArith]⟩)
          | (split at h
             · exact absurd h (by simp)
             · rename_i hb
               simp only [Option.some.injEq] at h; subst h
               exact ⟨_, by unfold Rep; rfl, by simp [binOp, Op.intDiv, hb]⟩)
          | (simp only [intBits, Option.some.injEq] at h; subst h; exact ⟨_, by unfold Rep; rfl, by simp [binOp, Op.intBits]⟩)
          | (simp only [intCmp, Option.some.injEq] at h; subst h; exact ⟨_, by unfold Rep; rfl, by simp [binOp, Op.intCmp]⟩)
  · rename_i a1 b1
    unfold Rep at hx hy
    obtain ⟨t1, rfl, rfl⟩ := hx
    obtain ⟨t2, rfl, rfl⟩ := hy
    have hg : (eqGuard op t ox oy (.string t1) (.string t2)).run C.P w = .ok () w := by
      unfold eqGuard
      cases op <;> rfl
    simp only [Sem.run_bind, hg, Result.andThen_ok]
    have hbin : binOp op t (.string t1) (.string t2) = Op.stringOp op t1 t2 := by cases op <;> rfl
    rw [hbin]
    unfold strOp at h
    cases op <;> simp only at h <;>
      first
      | (cases h; done)
      | (simp only [Option.some.injEq] at h; subst h; exact ⟨_, by unfold Rep; rfl, by simp [Op.stringOp, toList_data, ltBytes_eq]⟩)
      | (split at h
         · rename_i hle
           simp only [Option.some.injEq] at h; subst h
           refine ⟨.string (t1 ++ t2), by unfold Rep; exact ⟨_, rfl, by simp⟩, ?_⟩
           rw [size_data, size_data] at hle
           have : ¬ (((t1.size + t2.size : Nat) : Int) > IntKind.i64.max) := by
             show ¬ (((t1.size + t2.size : Nat) : Int) > 9223372036854775807)
             omega
           simp only [Op.stringOp, this, if_false, Sem.run_pure]
         · exact absurd h (by simp))
  · exact absurd h (by simp)
end
end Go.PM
end
section
namespace Go.PM
open Go
set_option linter.unusedVariables false
section
variable {C : Cfg} {N0 : Nat → Prop} {slot : Nat} {a : Act} {w : World} {φ : Phi} {H : Heap} {o : Oper}
theorem isNil_const {x : Operand} (h : isNil x = true) : ∃ v, x = .const v := by
  unfold isNil at h
  split at h <;> first | exact ⟨_, rfl⟩ | exact absurd h (by simp)
theorem nilSlice_const {x : Operand} (h : nilSlice x = true) : x = .const (.slice none 0 0) := by
  unfold nilSlice at h
  split at h <;> first | rfl | exact absurd h (by simp)
theorem someSlice_val {N : Nat → Prop} {x : DV} {v : Value} (hx : Rep w N φ x v) (h : x.someSlice = true) : ∃ A n c, v = .slice (some A) n c := by
  unfold DV.someSlice at h
  split at h
  · unfold Rep at hx
    obtain ⟨_, A, c, rfl, _, _, hm⟩ := hx
    rcases hm with hm | ⟨b, off, sz, vs, rfl, _⟩
    · exact absurd hm (by simp)
    · exact ⟨_, _, _, rfl⟩
  · exact absurd h (by simp)
theorem eqT_in {N : Nat → Prop} {t : TypeId} {d : TypeDesc} {lit : Bool} (n : Nat) (hu : C.P.underlying t = some d) {x y : DV} {v u : Value} (hx : Rep w N φ x v) (hy : Rep w N φ y u) {b : Bool}
    (h : eqT d lit x y = some b) : (Op.equalIn (n + 1) t v u).run C.P w = .ok b w := by
  unfold eqT at h
  split at h <;> (try (cases h; done))
  · unfold Rep at hx hy; subst hx; subst hy
    split at h
    · simp only [Option.some.injEq] at h; subst h
      unfold Op.equalIn; simp only [Sem.run_bind, run_underlying hu, Result.andThen_ok]; rfl
    · cases h
  · unfold Rep at hx hy; subst hx; subst hy
    split at h
    · simp only [Option.some.injEq] at h; subst h
      unfold Op.equalIn; simp only [Sem.run_bind, run_underlying hu, Result.andThen_ok]; rfl
    · cases h
  · unfold Rep at hx hy; subst hx; subst hy
    split at h
    · split at h
      · simp only [Option.some.injEq] at h; subst h
        unfold Op.equalIn; simp only [Sem.run_bind, run_underlying hu, Result.andThen_ok]; rfl
      · cases h
    · cases h
  · unfold Rep at hx hy; subst hx; obtain ⟨x', rfl, _⟩ := hy
    split at h
    · simp only [Option.some.injEq] at h; subst h
      unfold Op.equalIn; simp only [Sem.run_bind, run_underlying hu, Result.andThen_ok]; rfl
    · cases h
  · unfold Rep at hx hy; subst hy; obtain ⟨x', rfl, _⟩ := hx
    split at h
    · simp only [Option.some.injEq] at h; subst h
      unfold Op.equalIn; simp only [Sem.run_bind, run_underlying hu, Result.andThen_ok]; rfl
    · cases h
  · unfold Rep at hx hy; obtain ⟨x', rfl, _⟩ := hx; obtain ⟨y', rfl, _⟩ := hy
    split at h
    · split at h
      · cases h
      · rename_i hne
        simp only [Option.some.injEq] at h; subst h
        unfold Op.equalIn; simp only [Sem.run_bind, run_underlying hu, Result.andThen_ok]
        rw [if_pos hne]; rfl
    · cases h
  · unfold Rep at hx hy; subst hx; subst hy
    split at h
    · simp only [Option.some.injEq] at h; subst h
      unfold Op.equalIn; simp only [Sem.run_bind, run_underlying hu, Result.andThen_ok]; rfl
    · cases h
  · unfold Rep at hx hy; subst hx; obtain ⟨y', rfl, _⟩ := hy
    split at h
    · simp only [Option.some.injEq] at h; subst h
      unfold Op.equalIn; simp only [Sem.run_bind, run_underlying hu, Result.andThen_ok]; rfl
    · cases h
  · unfold Rep at hx hy; subst hy; obtain ⟨y', rfl, _⟩ := hx
    split at h
    · simp only [Option.some.injEq] at h; subst h
      unfold Op.equalIn; simp only [Sem.run_bind, run_underlying hu, Result.andThen_ok]; rfl
    · cases h
theorem eqT_guard {N : Nat → Prop} {t : TypeId} {d : TypeDesc} {ox oy : Operand} {op : BinOp} {x y : DV} {v u : Value} (hx : Rep w N φ x v) (hy : Rep w N φ y u) {b : Bool}
    (h : eqT d (isNil ox || isNil oy) x y = some b) : (eqGuard op t ox oy v u).run C.P w = .ok () w ∧ binOp .eql t v u = (do pure (.bool (← Op.equal t v u)) : Sem Value) ∧ binOp .neq t v u = (do pure (.bool (!(← Op.equal t v u))) : Sem Value) := by
  unfold eqT at h
  split at h <;> (try (cases h; done))
  · unfold Rep at hx hy; subst hx; subst hy
    exact ⟨by unfold eqGuard; cases op <;> rfl, rfl, rfl⟩
  · unfold Rep at hx hy; subst hx; subst hy
    exact ⟨by unfold eqGuard; cases op <;> rfl, rfl, rfl⟩
  · unfold Rep at hx hy; subst hx; subst hy
    split at h
    · split at h
      · rename_i hl
        simp only [Bool.or_eq_true] at hl
        refine ⟨?_, rfl, rfl⟩
        unfold eqGuard
        rcases hl with hl | hl <;> obtain ⟨c, rfl⟩ := isNil_const hl <;> cases op <;> simp
      · cases h
    · cases h
  · unfold Rep at hx hy; subst hx; obtain ⟨x', rfl, _⟩ := hy
    exact ⟨by unfold eqGuard; cases op <;> rfl, rfl, rfl⟩
  · unfold Rep at hx hy; subst hy; obtain ⟨x', rfl, _⟩ := hx
    exact ⟨by unfold eqGuard; cases op <;> rfl, rfl, rfl⟩
  · unfold Rep at hx hy; obtain ⟨x', rfl, _⟩ := hx; obtain ⟨y', rfl, _⟩ := hy
    exact ⟨by unfold eqGuard; cases op <;> rfl, rfl, rfl⟩
  · unfold Rep at hx hy; subst hx; subst hy
    exact ⟨by unfold eqGuard; cases op <;> rfl, rfl, rfl⟩
  · unfold Rep at hx hy; subst hx; obtain ⟨y', rfl, _⟩ := hy
    exact ⟨by unfold eqGuard; cases op <;> rfl, rfl, rfl⟩
  · unfold Rep at hx hy; subst hy; obtain ⟨y', rfl, _⟩ := hx
    exact ⟨by unfold eqGuard; cases op <;> rfl, rfl, rfl⟩
theorem equal_of {t : TypeId} {v u : Value} {b : Bool} (h : ∀ n, (Op.equalIn (n + 1) t v u).run C.P w = .ok b w) : (Op.equal t v u).run C.P w = .ok b w := h 9999
theorem eqS_sound {N : Nat → Prop} {t : TypeId} {d : TypeDesc} {ox oy : Operand} {x y : DV} (hu : C.P.underlying t = some d) (hx : Rep w N φ x (a.eval ox)) (hy : Rep w N φ y (a.eval oy)) {b : Bool} (h : eqS d ox oy x y = some b) :
    (∀ op, (eqGuard op t ox oy (a.eval ox) (a.eval oy)).run C.P w = .ok () w) ∧ (Op.equal t (a.eval ox) (a.eval oy)).run C.P w = .ok b w ∧
      binOp .eql t (a.eval ox) (a.eval oy) = (do pure (.bool (← Op.equal t (a.eval ox) (a.eval oy))) : Sem Value) ∧ binOp .neq t (a.eval ox) (a.eval oy) = (do pure (.bool (!(← Op.equal t (a.eval ox) (a.eval oy)))) : Sem Value) := by
  unfold eqS at h
  split at h
  · rename_i e
    split at h
    · rename_i hc
      simp only [Option.some.injEq] at h; subst h
      simp only [Bool.or_eq_true, Bool.and_eq_true] at hc
      rcases hc with ⟨h1, h2⟩ | ⟨h1, h2⟩
      · obtain ⟨A, n, c, hv⟩ := someSlice_val hx h2
        rw [nilSlice_const h1, hv]
        refine ⟨fun op => by unfold eqGuard; cases op <;> rfl, equal_of fun n => ?_, rfl, rfl⟩
        unfold Op.equalIn; simp only [Sem.run_bind, run_underlying hu, Result.andThen_ok]; rfl
      · obtain ⟨A, n, c, hv⟩ := someSlice_val hy h2
        rw [nilSlice_const h1, hv]
        refine ⟨fun op => by unfold eqGuard; cases op <;> rfl, equal_of fun n => ?_, rfl, rfl⟩
        unfold Op.equalIn; simp only [Sem.run_bind, run_underlying hu, Result.andThen_ok]; rfl
    · cases h
  · obtain ⟨k1, k2, k3⟩ := eqT_guard (C := C) (t := t) (op := .eql) hx hy h
    exact ⟨fun op => (eqT_guard (C := C) (t := t) (op := op) hx hy h).1, equal_of fun n => eqT_in n hu hx hy h, k2, k3⟩
theorem binT_sound {N : Nat → Prop} {op : BinOp} {t : TypeId} {ox oy : Operand} {x y d : DV} (hx : Rep w N φ x (a.eval ox)) (hy : Rep w N φ y (a.eval oy)) (h : C.binT op t ox oy x y = some d) :
    ∃ r, Rep w N φ d r ∧ (do eqGuard op t ox oy (a.eval ox) (a.eval oy); binOp op t (a.eval ox) (a.eval oy) : Sem Value).run C.P w = .ok r w := by
  unfold Cfg.binT at h
  split at h
  · rename_i v hv
    simp only [Option.some.injEq] at h; subst h
    exact binD_sound hx hy hv
  · split at h
    · cases h
    · rename_i d' hu
      split at h
      · obtain ⟨b, hb, rfl⟩ := Option.map_eq_some_iff.1 h
        obtain ⟨k1, k2, k3, k4⟩ := eqS_sound hu hx hy hb
        refine ⟨_, by unfold Rep; rfl, ?_⟩
        rw [k3]; simp only [Sem.run_bind, k1, Result.andThen_ok, k2, Sem.run_pure]
      · obtain ⟨b, hb, rfl⟩ := Option.map_eq_some_iff.1 h
        obtain ⟨k1, k2, k3, k4⟩ := eqS_sound hu hx hy hb
        refine ⟨_, by unfold Rep; rfl, ?_⟩
        rw [k4]; simp only [Sem.run_bind, k1, Result.andThen_ok, k2, Sem.run_pure]
      · cases h
theorem unD_sound {N : Nat → Prop} {op : UnOp} {x d : DV} {v : Value} (hx : Rep w N φ x v) (h : unD op x = some d) : ∃ r, Rep w N φ d r ∧ (Op.unary op v).run C.P w = .ok r w := by
  unfold unD at h
  split at h
  · unfold Rep at hx; subst hx
    simp only [Option.some.injEq] at h; subst h
    exact ⟨_, by unfold Rep; rfl, by simp [Op.unary, Op.intArith]⟩
  · unfold Rep at hx; subst hx
    simp only [intBits, Option.some.injEq] at h; subst h
    exact ⟨_, by unfold Rep; rfl, by simp [Op.unary, Op.intBits]⟩
  · unfold Rep at hx; subst hx
    simp only [Option.some.injEq] at h; subst h
    exact ⟨_, by unfold Rep; rfl, by simp [Op.unary]⟩
  · cases h
end
end Go.PM
end
section
namespace Go.PM
open Go
set_option linter.unusedVariables false
section
variable {C : Cfg} {N0 : Nat → Prop} {slot : Nat} {a : Act} {w : World} {φ : Phi} {H : Heap} {o : Oper}
theorem Step.quietNew (h : HeapRel w N0 φ H) {w' : World} {ob : Obj} (hos : w'.os = w.os) (htape : w'.tape = w.tape) (hout : w'.output = w.output) (hheap : w'.heap = w.heap.push ob) : Step N0 w φ H w' φ H :=
  Step.gen h (fun _ => False) hos htape hout (by rw [hheap]; simp) (fun b hb _ => by rw [hheap, Array.getElem?_push, if_neg (by omega)]) (fun _ _ => ⟨rfl, rfl⟩) (fun _ _ h => .inl h)
    (fun id _ pb hp => by rw [hheap, Array.getElem?_push, if_neg (by have := h.lt hp; omega)]) (fun _ h => h.elim) (fun _ h => h.elim) (fun _ _ h => h.elim) (fun _ h => h.elim) (fun _ h => h.elim) (fun _ h => h.elim)
theorem bytesOf_ints : ∀ {es : List DV} {s : List UInt8}, bytesOf es = some s → ∃ ns : List Int, es = ns.map (DV.int .u8) ∧ s = ns.map fun n => UInt8.ofNat n.toNat
  | [], s, h => by simp only [bytesOf, Option.some.injEq] at h; subst h; exact ⟨[], rfl, rfl⟩
  | .int .u8 n :: r, s, h => by
    simp only [bytesOf] at h
    obtain ⟨s', h1, rfl⟩ := Option.map_eq_some_iff.1 h
    obtain ⟨ns, rfl, rfl⟩ := bytesOf_ints h1
    exact ⟨n :: ns, rfl, rfl⟩
  | .int .i8 n :: r, s, h => by simp [bytesOf] at h
  | .int .i16 n :: r, s, h => by simp [bytesOf] at h
  | .int .i32 n :: r, s, h => by simp [bytesOf] at h
  | .int .i64 n :: r, s, h => by simp [bytesOf] at h
  | .int .u16 n :: r, s, h => by simp [bytesOf] at h
  | .int .u32 n :: r, s, h => by simp [bytesOf] at h
  | .int .u64 n :: r, s, h => by simp [bytesOf] at h
  | .undef :: r, s, h => by simp [bytesOf] at h
  | .dead :: r, s, h => by simp [bytesOf] at h
  | .bool _ :: r, s, h => by simp [bytesOf] at h
  | .str _ :: r, s, h => by simp [bytesOf] at h
  | .nilp :: r, s, h => by simp [bytesOf] at h
  | .ptr _ _ _ :: r, s, h => by simp [bytesOf] at h
  | .iptr _ _ :: r, s, h => by simp [bytesOf] at h
  | .list _ _ :: r, s, h => by simp [bytesOf] at h
  | .ref _ _ _ _ :: r, s, h => by simp [bytesOf] at h
  | .agg _ :: r, s, h => by simp [bytesOf] at h
  | .tuple _ :: r, s, h => by simp [bytesOf] at h
  | .func _ _ :: r, s, h => by simp [bytesOf] at h
  | .nilf :: r, s, h => by simp [bytesOf] at h
  | .iface _ _ :: r, s, h => by simp [bytesOf] at h
  | .nili :: r, s, h => by simp [bytesOf] at h
theorem repEs_ints {N : Nat → Prop} {sz : Nat} : ∀ {ns : List Int} {vs : List Value}, RepEs w N φ sz (ns.map (DV.int .u8)) vs → vs = ns.map (Value.int .u8) ∧ (ns = [] ∨ sz = 1)
  | [], vs, h => by unfold RepEs at h; exact ⟨h, .inl rfl⟩
  | n :: ns, vs, h => by
    simp only [List.map_cons] at h
    unfold RepEs at h
    obtain ⟨x, r, rfl, h2, h3, h4, h5, h6⟩ := h
    unfold Rep at h5
    subst h5
    obtain ⟨rfl, _⟩ := repEs_ints h6
    exact ⟨rfl, .inr h2.symm⟩
theorem foldl_push : ∀ (ns : List Int) (r : ByteArray), (ns.foldl (fun r n => r.push (UInt8.ofNat n.toNat)) r).data.toList = r.data.toList ++ ns.map fun n => UInt8.ofNat n.toNat
  | [], r => by simp
  | n :: ns, r => by
    simp only [List.foldl_cons, List.map_cons]
    rw [foldl_push ns]
    simp
theorem exec_convert {src dst : TypeId} {ox : Operand} (ho : o.op = .convert src dst ox) {x : Value} {w' : World} (h : (convert src dst (a.eval ox)).run C.P w = .ok x w') : (execOp a.eval o).run C.P w = .ok (.value x) w' := by
  simp only [execOp, ho, Sem.run_bind, h, Result.andThen_ok, Sem.run_pure]
theorem freeze_frame (w : World) (x : Addr) (n : Nat) : (w.freeze x n).os = w.os ∧ (w.freeze x n).tape = w.tape ∧ (w.freeze x n).output = w.output := by
  unfold World.freeze; split <;> exact ⟨rfl, rfl, rfl⟩
def strCells (t : ByteArray) (cap : Nat) : Array Value := t.data.map (fun b : UInt8 => Value.int .u8 b.toNat) ++ Array.replicate (cap - t.size) (.int .u8 0)
theorem convD_sound {rd : Nat → Option Blk} (hrel : HeapRel w N0 φ H) (hrd : ∀ id b, rd id = some b → H id = some b) {src dst : TypeId} {ox : Operand} (ho : o.op = .convert src dst ox) {x d : DV} (hx : Rep w (Nn N0 φ H) φ x (a.eval ox)) (h : C.convD rd src dst x = some d) :
    Gives C N0 slot a w φ H o d [] := by
  unfold Cfg.convD at h
  split at h
  · rename_i d0 k k' n hs hd
    simp only [Option.some.injEq] at h; subst h
    unfold Rep at hx
    refine gives_val hrel (exec_convert ho ?_) (by unfold Rep; rfl)
    rw [hx]
    simp only [convert, Sem.run_bind, run_underlying hs, run_underlying hd, Result.andThen_ok, Conv.intToInt, Sem.run_pure]
  · rename_i d0 s hs hd
    simp only [Option.some.injEq] at h; subst h
    refine gives_val hrel (exec_convert ho ?_) hx
    unfold Rep at hx
    obtain ⟨t, hv, _⟩ := hx
    rw [hv]
    simp only [convert, Sem.run_bind, run_underlying hs, run_underlying hd, Result.andThen_ok, Sem.run_pure]
  · rename_i e hs hd hnn
    split at h
    · rename_i es hu he
      obtain ⟨s, hb, rfl⟩ := Option.map_eq_some_iff.1 h
      obtain ⟨ns, rfl, rfl⟩ := bytesOf_ints hb
      obtain ⟨ie, A, c, hv, hlc, hm⟩ := elemsOf_rep hrel hrd hx he
      simp only [List.length_map] at hv
      have hconv : ∀ r, (Conv.bytesToString (a.eval ox)).run C.P w = .ok r w → (convert src dst (a.eval ox)).run C.P w = .ok r w := by
        intro r hr
        rw [hv] at hr ⊢
        simp only [convert, Sem.run_bind, run_underlying hs, run_underlying hd, Result.andThen_ok, run_underlying hu, hr]
      by_cases hns : ns = []
      · subst hns
        refine gives_val hrel (x := .string .empty) (exec_convert ho (hconv _ ?_)) (by unfold Rep; exact ⟨_, rfl, rfl⟩)
        rw [hv]
        cases A with
        | none => rfl
        | some A =>
          have := run_bytesToString (P := C.P) w A 0 c [] (by rfl)
          exact this
      · obtain ⟨b, off, sz, vs, rfl, hE, hcell⟩ := hm.resolve_left (by simpa using hns)
        obtain ⟨rfl, h1⟩ := repEs_ints hE
        refine gives_val hrel (x := .string (ns.foldl (fun r n => r.push (UInt8.ofNat n.toNat)) ByteArray.empty)) (exec_convert ho (hconv _ ?_)) (by unfold Rep; exact ⟨_, rfl, by rw [foldl_push]; rfl⟩)
        rw [hv]
        refine run_bytesToString (P := C.P) w _ _ c ns ?_
        have := run_loadCells_list (P := C.P) w ⟨b, off, none⟩ (ns.map (Value.int .u8)) (fun j v hj => by rw [Addr.add_lit]; exact hcell j v hj)
        simpa using this
    · cases h
  · rename_i d0 e s hs hd
    split at h
    · rename_i hu
      simp only [Option.some.injEq] at h; subst h
      have hx0 := hx
      unfold Rep at hx
      obtain ⟨t, hv, rfl⟩ := hx
      obtain ⟨cap, hcap⟩ : ∃ cap, cap = (Question.appendCap t.size 0 e).cut (w.tape w.drawn (.appendCap t.size 0 e)) := ⟨_, rfl⟩
      have hge : t.size ≤ cap := by
        rw [hcap]
        simp only [Question.cut]
        omega
      have hrun : (Conv.stringToBytes e t).run C.P w = .ok (.slice (some ⟨w.heap.size, 0, none⟩) t.size cap) ((w.drew.alloc (.cells (strCells t cap) e)).freeze ⟨w.heap.size, (strCells t cap).size, none⟩ 1) := by
        unfold Conv.stringToBytes
        simp only [Sem.run_bind, run_choose, Question.forced, Bool.false_eq_true, if_false, Result.andThen_ok, newRow, run_newObj, Sem.run_pure, markStringish, run_shape, ← hcap]
        have : ({ heap := w.heap.push (.cells (strCells t cap) e), tape := w.tape, drawn := w.drawn + 1, os := w.os, output := w.output } : World).shape? w.heap.size =
            some (e, (strCells t cap).size) := by simp [World.shape?]
        unfold strCells at this ⊢
        rw [this]
        rfl
      have hheap : ((w.drew.alloc (.cells (strCells t cap) e)).freeze ⟨w.heap.size, (strCells t cap).size, none⟩ 1).heap =
          w.heap.push (.cells (strCells t cap) e ((strCells t cap).size, (strCells t cap).size + 1)) := by
        apply Array.ext_getElem?
        intro j
        simp only [World.freeze, Nat.one_ne_zero, if_false, World.alloc, Array.getElem?_modify, Array.getElem?_push, heap_drew]
        by_cases hj : j = w.heap.size
        · subst hj; simp
        · have : w.heap.size ≠ j := Ne.symm hj
          simp [this, hj]
      have st := Step.quietNew hrel (w' := (w.drew.alloc (.cells (strCells t cap) e)).freeze ⟨w.heap.size, (strCells t cap).size, none⟩ 1) (freeze_frame _ _ _).1 (freeze_frame _ _ _).2.1 (freeze_frame _ _ _).2.2 hheap
      refine ⟨.slice (some ⟨w.heap.size, 0, none⟩) t.size cap, _, φ, .inl (exec_convert ho ?_), st, ?_, fun _ h _ => h⟩
      · rw [hv]
        simp only [convert, Sem.run_bind, run_underlying hs, run_underlying hd, Result.andThen_ok, run_underlying hu, hrun]
      · unfold Rep
        refine ⟨imms_of fun d hd => ?_, some ⟨w.heap.size, 0, none⟩, cap, by simp, fun q => absurd q (by simp), by simpa using hge, .inr ⟨w.heap.size, 0, 1, _, rfl, by rw [hheap]; simp, ?_, bytes_rep t.data.toList, ?_⟩⟩
        · obtain ⟨b, _, rfl⟩ := List.mem_map.1 hd
          rfl
        · rintro (hn | ⟨id, pb, blk, h1, h2, h3, h4⟩)
          · have := hrel.lim _ hn; omega
          · have := hrel.lt h1; omega
        · intro k x hk
          simp only [World.cell?, hheap]
          simp only [Array.getElem?_push_size, Option.isSome_none, Bool.false_eq_true, if_false, Nat.zero_add]
          unfold strCells
          rw [Array.getElem?_append_left (by
            have := (List.getElem?_eq_some_iff.1 hk).1
            simpa using this)]
          simpa using hk
    · cases h
  · cases h
theorem range_sound (hrel : HeapRel w N0 φ H) (hslot : ∀ j, slot ≤ j → j < slot + wide → φ j = none) {t : TypeId} {ox : Operand} (ho : o.op = .range t ox) {s : List UInt8} (hu : C.P.underlying t = some .string) (hx : Rep w (Nn N0 φ H) φ (.str s) (a.eval ox)) :
    Gives C N0 slot a w φ H o (.ptr slot 0 0) [(slot, some (.siter s 0))] := by
  unfold Rep at hx
  obtain ⟨tb, hv, rfl⟩ := hx
  have hs : φ slot = none := hslot slot (Nat.le_refl _) (by unfold wide; omega)
  have st := Step.new (w' := w.alloc (.stringIter tb 0)) hrel hs (o := .stringIter tb 0) (.siter tb.data.toList 0) ⟨w.heap.size, 0, 0⟩ rfl rfl rfl rfl rfl (fun φ' H' L => ⟨tb, heap_alloc_new w _, by simp, Nat.zero_le _⟩)
  refine ⟨.pointer (some ⟨w.heap.size, 0, none⟩), _, _, .inl ?_, st, ?_, fun id hid hn => ?_⟩
  · simp only [execOp, ho, Instr.range, Sem.run_bind, run_underlying hu, Result.andThen_ok, hv, Sem.run_pure, run_newObj, World.alloc]
  · unfold Rep
    exact ⟨rfl, _, if_pos rfl, fun pb hpb => by simp only [Option.some.injEq] at hpb; subst hpb; simp⟩
  · have : id ≠ slot := fun e => hn ⟨by omega, by unfold wide; omega⟩
    simp [this, hid]
theorem get_bang (t : ByteArray) (i : Nat) (h : i < t.size) : t.get! i = t.data.toList[i]'(by simpa using h) := by
  show t.data[i]! = _
  rw [getElem!_pos t.data i h, Array.getElem_toList]
theorem runeOf_congr {b0 : Nat} {c1 c2 c3 : Bool} {l1 l2 l3 m1 m2 m3 : Nat} (h1 : c1 = true → l1 = m1) (h2 : c2 = true → l2 = m2) (h3 : c3 = true → l3 = m3) : runeOf b0 c1 c2 c3 l1 l2 l3 = runeOf b0 c1 c2 c3 m1 m2 m3 := by
  cases c1
  · simp [runeOf]
  · obtain rfl := h1 rfl
    cases c2
    · simp [runeOf]
    · obtain rfl := h2 rfl
      cases c3
      · simp [runeOf]
      · obtain rfl := h3 rfl
        rfl
theorem decode_runeOf (t : ByteArray) (i : Nat) : Utf8.decode t i = runeOf (t.get! (i + 0)).toNat (decide (i + 1 < t.size) && (t.get! (i + 1)).toNat / 64 == 2) (decide (i + 2 < t.size) && (t.get! (i + 2)).toNat / 64 == 2) (decide (i + 3 < t.size) && (t.get! (i + 3)).toNat / 64 == 2)
    ((t.get! (i + 1)).toNat % 64) ((t.get! (i + 2)).toNat % 64) ((t.get! (i + 3)).toNat % 64) := rfl
theorem decodeL_eq (t : ByteArray) (pos : Nat) : decodeL (t.data.toList.drop pos) = if pos < t.size then some (Utf8.decode t pos) else none := by
  split
  · rename_i hp
    have hlt : pos < t.data.toList.length := by rw [size_data]; exact hp
    rw [List.drop_eq_getElem_cons hlt]
    have hg : ∀ k m, m = pos + (k + 1) → (t.data.toList.drop (pos + 1))[k]? = t.data.toList[m]? := fun k m e => by subst e; rw [List.getElem?_drop]; congr 1; omega
    have hc : ∀ k, contB t.data.toList[k]? = (decide (k < t.size) && (t.get! k).toNat / 64 == 2) := fun k => by
      by_cases h : k < t.size
      · rw [get_bang t _ h, List.getElem?_eq_getElem (by rw [size_data]; exact h)]
        simp [h, contB]
      · rw [List.getElem?_eq_none (by rw [size_data]; omega)]
        simp [h, contB]
    have hl : ∀ k, (decide (k < t.size) && (t.get! k).toNat / 64 == 2) = true → lowB t.data.toList[k]? = (t.get! k).toNat % 64 := fun k h => by
      simp only [Bool.and_eq_true, decide_eq_true_eq] at h
      rw [get_bang t _ h.1, List.getElem?_eq_getElem (by rw [size_data]; exact h.1)]
      rfl
    have h0 : (t.data.toList[pos]).toNat = (t.get! (pos + 0)).toNat := by rw [Nat.add_zero, get_bang t pos hp]
    simp only [decodeL, hg 0 (pos + 1) rfl, hg 1 (pos + 2) rfl, hg 2 (pos + 3) rfl, hc, h0, decode_runeOf]
    rw [runeOf_congr (hl (pos + 1)) (hl (pos + 2)) (hl (pos + 3))]
  · rename_i hp
    rw [List.drop_eq_nil_of_le (by rw [size_data]; omega)]
    rfl
theorem runeOf_pos (b0 : Nat) (c1 c2 c3 : Bool) (l1 l2 l3 : Nat) : 1 ≤ (runeOf b0 c1 c2 c3 l1 l2 l3).2 := by
  unfold runeOf
  repeat' split
  all_goals exact Nat.le_add_left 1 _
theorem runeOf_fit (b0 : Nat) (c1 c2 c3 : Bool) (l1 l2 l3 : Nat) : (runeOf b0 c1 c2 c3 l1 l2 l3).2 ≤ 1 ∨ (c1 = true ∧ (runeOf b0 c1 c2 c3 l1 l2 l3).2 ≤ 2) ∨ (c2 = true ∧ (runeOf b0 c1 c2 c3 l1 l2 l3).2 ≤ 3) ∨ (c3 = true ∧ (runeOf b0 c1 c2 c3 l1 l2 l3).2 ≤ 4) := by
  cases c1 <;> cases c2 <;> cases c3 <;> simp only [runeOf] <;> repeat' split
  all_goals simp_all
theorem next_sound {rd : Nat → Option Blk} (hrel : HeapRel w N0 φ H) (hrd : ∀ id b, rd id = some b → H id = some b) {ox : Operand} (ho : o.op = .next ox true) {id : Nat} {s : List UInt8} {pos : Nat} (hx : Rep w (Nn N0 φ H) φ (.ptr id 0 0) (a.eval ox)) (hb : rd id = some (.siter s pos)) :
    (∀ c k, decodeL s = some (c, k) → Gives C N0 slot a w φ H o (.tuple [.bool true, .int .i64 pos, .int .i32 c]) [(id, some (.siter (s.drop k) (pos + k)))]) ∧ (decodeL s = none → Gives C N0 slot a w φ H o (.tuple [.bool false]) []) := by
  obtain ⟨pb, h1, hv⟩ := ptr_live hrel hrd (by rw [hb]; rfl) hx
  obtain ⟨pb', h2, t, h3, h4, h5⟩ := hrel.here id _ (hrd _ _ hb)
  rw [h1] at h2
  simp only [Option.some.injEq] at h2
  subst h2
  have hv' : a.eval ox = .pointer (some ⟨pb.b, 0, none⟩) := by rw [hv]; simp
  have hd := decodeL_eq t pos
  rw [h4] at hd
  have hobj : (getObj pb.b).run C.P w = .ok (.stringIter t pos) w := by simp [getObj, Sem.run, h3]
  refine ⟨fun c k hck => ?_, fun hn => ?_⟩
  · rw [hck] at hd
    split at hd
    · rename_i hp
      simp only [Option.some.injEq] at hd
      have hlt : pb.b < w.heap.size := hrel.lt h1
      have hk : pos + k ≤ t.size := by
        have h7 : (Utf8.decode t pos).2 = k := by rw [← hd]
        rw [decode_runeOf] at h7
        rw [← h7]
        rcases runeOf_fit (t.get! (pos + 0)).toNat (decide (pos + 1 < t.size) && (t.get! (pos + 1)).toNat / 64 == 2) (decide (pos + 2 < t.size) && (t.get! (pos + 2)).toNat / 64 == 2) (decide (pos + 3 < t.size) && (t.get! (pos + 3)).toNat / 64 == 2)
          ((t.get! (pos + 1)).toNat % 64) ((t.get! (pos + 2)).toNat % 64) ((t.get! (pos + 3)).toNat % 64) with h8 | ⟨h8, h9⟩ | ⟨h8, h9⟩ | ⟨h8, h9⟩ <;> (try simp only [Bool.and_eq_true, decide_eq_true_eq] at h8) <;> omega
      let w' : World := { w with heap := w.heap.setIfInBounds pb.b (.stringIter t (pos + k)) }
      have hset : (setObj pb.b (.stringIter t (pos + k))).run C.P w = .ok () w' := by simp [setObj, Sem.run, h3, w']
      have st := Step.write (w' := w') hrel h1 (hrd _ _ hb) rfl (.siter (s.drop k) (pos + k)) rfl rfl rfl (by simp [w']) (fun b hb => by
        simp only [w', Array.getElem?_setIfInBounds]
        rw [if_neg (Ne.symm hb)]) (fun φ' H' L => ⟨t, by simp only [w', Array.getElem?_setIfInBounds]; simp [hlt], by rw [← h4, List.drop_drop], hk⟩)
      refine ⟨.tuple #[.bool true, goInt pos, .int .i32 c], w', φ, .inl ?_, st, ?_, fun _ h _ => h⟩
      · simp only [execOp, ho, hv', Instr.next, Sem.run_bind, hobj, Result.andThen_ok, hp, if_true, ← hd, hset, Sem.run_pure]
      · unfold Rep
        refine ⟨_, rfl, ?_⟩
        unfold RepL
        refine ⟨_, _, rfl, by unfold Rep; rfl, ?_⟩
        unfold RepL
        refine ⟨_, _, rfl, by unfold Rep; rfl, ?_⟩
        exact RepL.one (by unfold Rep; rfl)
    · cases hd
  · rw [hn] at hd
    split at hd
    · cases hd
    · rename_i hp
      refine gives_val hrel (x := .tuple #[.bool false]) ?_ (by unfold Rep; exact ⟨_, rfl, RepL.one (by unfold Rep; rfl)⟩)
      simp only [execOp, ho, hv', Instr.next, Sem.run_bind, hobj, Result.andThen_ok, hp, if_false, Sem.run_pure]
end
end Go.PM
end
