/- The engine, part A: typed data, decision trees, and an evaluator of the model's Code over them. Definitions alone; what it means is proved in the parts behind. -/
import Derived.Below
import Derived.Laws.OwnMore
import Derived.Laws.IdiomCopy
import Derived.Laws.MakeOwn
import Derived.Orders
import Derived.KernelRfl
import Derived.LoopN
import Derived.Laws.Strings
import Derived.Lib.ConvBytes
import Derived.Laws.NewFold
set_option linter.unusedVariables false
namespace Go.X

inductive Ty where
  | bool | int (k : IntKind) | str | opq | unit | list (t : Ty) | pair (a b : Ty)
  deriving DecidableEq
@[reducible] def Ty.den : Ty → Type
  | .bool => Bool | .int _ => Int | .str => List UInt8 | .opq => Unit | .unit => Unit
  | .list t => List t.den | .pair a b => a.den × b.den
def Ty.size : Ty → Nat
  | .unit => 0 | .pair a b => a.size + b.size | _ => 1
def Ty.isAgg : Ty → Bool
  | .unit => true | .pair _ _ => true | _ => false
def Ty.zero : (t : Ty) → t.den
  | .bool => false | .int _ => (0 : Int) | .str => [] | .opq => () | .unit => () | .list _ => [] | .pair a b => (a.zero, b.zero)
/-- A value with its type. -/
structure DV where
  t : Ty
  x : t.den
def Ty.cast? (t u : Ty) (x : t.den) : Option u.den := if h : t = u then some (h ▸ x) else none
def Ty.nth : Ty → Nat → Option Ty
  | .pair a _, 0 => some a | .pair _ b, i + 1 => b.nth i | _, _ => none
def Ty.offs : Ty → Nat → Nat
  | .pair _ _, 0 => 0 | .pair a b, i + 1 => a.size + b.offs i | _, _ => 0
def Ty.proj : (t : Ty) → t.den → Nat → Option DV
  | .pair a _, x, 0 => some ⟨a, x.1⟩ | .pair _ b, x, i + 1 => b.proj x.2 i | _, _, _ => none
def DV.at_ : DV → List Nat → Option DV
  | d, [] => some d
  | d, i :: p => match d.t.proj d.x i with
    | some e => e.at_ p
    | none => none
def Ty.at_ : Ty → List Nat → Option Ty
  | t, [] => some t
  | t, i :: p => match t.nth i with
    | some e => e.at_ p
    | none => none
def Ty.offAt : Ty → List Nat → Nat
  | _, [] => 0
  | t, i :: p => t.offs i + (match t.nth i with | some e => e.offAt p | none => 0)
def Ty.setAt : (t : Ty) → t.den → List Nat → DV → Option t.den
  | t, _, [], v => v.t.cast? t v.x
  | .pair a _, x, 0 :: p, v => (a.setAt x.1 p v).map fun y => (y, x.2)
  | .pair _ b, x, (i + 1) :: p, v => (b.setAt x.2 (i :: p) v).map fun y => (x.1, y)
  | _, _, _, _ => none
/-- Types whose values Go's '==' compares. -/
def Ty.cmp : Ty → Bool
  | .bool => true | .int _ => true | .str => true | .unit => true | .pair a b => a.cmp && b.cmp | _ => false
def Ty.eqb : (t : Ty) → t.den → t.den → Bool
  | .bool, x, y => x == y
  | .int _, x, y => decide ((x : Int) = y)
  | .str, x, y => decide ((x : List UInt8) = y)
  | .pair a b, x, y => a.eqb x.1 y.1 && b.eqb x.2 y.2
  | _, _, _ => true
def Ty.chain : Ty → Bool
  | .unit => true | .pair _ b => b.chain | _ => false
/-- The components of a struct, as values. -/
def Ty.parts : (t : Ty) → t.den → List DV
  | .pair a b, x => ⟨a, x.1⟩ :: b.parts x.2
  | _, _ => []

inductive DT (α : Type) : Type 1 where
  | leaf (a : α)
  | fail
  | br (b : Bool) (x y : DT α)
  | opt {β : Type} (o : Option β) (k : β → DT α)
  | alt {β γ : Type} (o : Option (β ⊕ γ)) (k : β → DT α) (h : γ → DT α)
namespace DT
variable {α β : Type}
def val : DT α → Option α
  | leaf a => some a
  | fail => none
  | br b x y => bif b then x.val else y.val
  | opt o k => match o with | some r => (k r).val | none => none
  | alt o k h => match o with | some (.inl r) => (k r).val | some (.inr r) => (h r).val | none => none
def bind : DT α → (α → DT β) → DT β
  | leaf a, f => f a
  | fail, _ => fail
  | br b x y, f => br b (x.bind f) (y.bind f)
  | opt o k, f => opt o fun r => (k r).bind f
  | alt o k h, f => alt o (fun r => (k r).bind f) (fun r => (h r).bind f)
def map (f : α → β) (x : DT α) : DT β := x.bind fun a => leaf (f a)
def ofOpt (o : Option α) : DT α := match o with | some a => leaf a | none => fail
end DT

inductive RV where
  | undef
  | dat (t : Ty) (x : t.den)
  | clip (t : Ty) (xs : List t.den)
  | nilv
  | nils (e : TypeId) (t : Ty)
  | own (t : Ty) (o : Nat)
  | view (t : Ty) (o : Nat) (lo hi : Nat)
  | ptr (o : Nat) (t : Ty) (i : Nat) (path : List Nat)
  | fptr (t : Ty) (x : t.den)
  | agg (l : List RV)
  | tup (l : List RV)
  | fn (f : FuncId) (first caps : List RV)
  | iface (T : TypeId) (r : RV)
  | nilI | nilF | nilP
  /-- a whole number that is at least n: how far a slice may grow -/
  | atl (n : Nat)
  /-- a slice that may grow to c elements, and no further -/
  | lim (t : Ty) (xs : List t.den) (c : Nat)
  /-- the body of a range over a function, as a function; its record is an object -/
  | yld (Y : Nat) (o : Nat)
  /-- a place in a variable that is laid: the functions that lie there -/
  | gp (b off : Nat) (l : List (Option Nat))
  /-- the calls that are deferred: of a function; what it holds: places, one place with data, places; the latest first -/
  | dfr (f : FuncId) (a b : List RV) (t : Ty) (xs : List t.den)
inductive Ob where
  | hole
  | gone
  | arr (e : TypeId) (t : Ty) (xs : List t.den) (fz : Bool)
  | box (T : TypeId) (t : Ty) (r : RV)
  /-- how far a text has been gone through -/
  | iter (s : List UInt8) (pos : Int)
  /-- the record of a range over a function: the temporaries of its rounds; 0: ready, -1: within a round, else: left by a jump -/
  | loop (Y : Nat) (R : List (Nat × RV)) (p : Int)
abbrev Regs := List (Nat × RV)
structure St where
  regs : Regs
  heap : List Ob
def Regs.get : Regs → Nat → Option RV
  | [], _ => none
  | (e, s) :: l, d => bif Nat.beq d e then some s else Regs.get l d
def Regs.put : Regs → Nat → RV → Regs
  | [], d, r => [(d, r)]
  | (e, s) :: l, d, r => bif Nat.beq d e then (d, r) :: l else bif Nat.blt d e then (d, r) :: (e, s) :: l else (e, s) :: Regs.put l d r

inductive HM (α : Type) : Type 1 where
  | ret (a : α)
  | fail
  | br (b : Bool) (x y : HM α)
  | opt {β : Type} (o : Option β) (k : β → HM α)
  | alt {β γ : Type} (o : Option (β ⊕ γ)) (k : β → HM α) (h : γ → HM α)
  | rdc (o : Nat) (k : Ob → HM α)
  | frz (o : Nat) (k : HM α)
  | rdw (o : Nat) (k : Ob → HM α)
  | wr (o : Nat) (b : Ob) (k : HM α)
  | nw (b : Ob) (k : Nat → HM α)
  | nxt (k : Nat → HM α)
structure FP where
  rd : List Nat
  fz : List Nat
  wr : List Nat
def FP.none : FP := ⟨[], [], []⟩
/-- What a mere reader sees: whether an array is frozen is not for it. -/
def Ob.mask : Ob → Ob
  | .arr e t xs _ => .arr e t xs false
  | b => b
def Ob.freeze : Ob → Ob
  | .arr e t xs _ => .arr e t xs true
  | b => b
def getOb (h : List Ob) (o : Nat) : Ob := h.getD o .hole
def putOb : List Ob → Nat → Ob → List Ob
  | [], 0, b => [b]
  | [], _ + 1, _ => []
  | _ :: l, 0, b => b :: l
  | a :: l, n + 1, b => a :: putOb l n b
namespace HM
variable {α β : Type}
def bind : HM α → (α → HM β) → HM β
  | ret a, f => f a
  | fail, _ => fail
  | br b x y, f => br b (x.bind f) (y.bind f)
  | opt o k, f => opt o fun r => (k r).bind f
  | alt o k h, f => alt o (fun r => (k r).bind f) (fun r => (h r).bind f)
  | rdc o k, f => rdc o fun b => (k b).bind f
  | frz o k, f => frz o (k.bind f)
  | rdw o k, f => rdw o fun b => (k b).bind f
  | wr o b k, f => wr o b (k.bind f)
  | nw b k, f => nw b fun i => (k i).bind f
  | nxt k, f => nxt fun i => (k i).bind f
def map (f : α → β) (x : HM α) : HM β := x.bind fun a => ret (f a)
def ofOpt (o : Option α) : HM α := match o with | some a => ret a | none => fail
def chk (b : Bool) (x : HM α) : HM α := br b x fail
def ofDT : DT α → HM α
  | .leaf a => ret a
  | .fail => fail
  | .br b x y => br b (ofDT x) (ofDT y)
  | .opt o k => opt o fun r => ofDT (k r)
  | .alt o k h => alt o (fun r => ofDT (k r)) (fun r => ofDT (h r))
def run : HM α → List Ob → Nat → FP → DT (α × List Ob × Nat × FP)
  | ret a, h, n, p => .leaf (a, h, n, p)
  | fail, _, _, _ => .fail
  | br b x y, h, n, p => .br b (x.run h n p) (y.run h n p)
  | opt o k, h, n, p => .opt o fun r => (k r).run h n p
  | alt o k l, h, n, p => .alt o (fun r => (k r).run h n p) (fun r => (l r).run h n p)
  | rdc o k, h, n, p => (k (getOb h o).mask).run h n ⟨o :: p.rd, p.fz, p.wr⟩
  | frz o k, h, n, p => k.run (putOb h o (getOb h o).freeze) n ⟨p.rd, o :: p.fz, p.wr⟩
  | rdw o k, h, n, p => (k (getOb h o)).run h n ⟨p.rd, p.fz, o :: p.wr⟩
  | wr o b k, h, n, p => k.run (putOb h o b) n ⟨p.rd, p.fz, o :: p.wr⟩
  | nw b k, h, n, p => (k n).run (putOb h n b) (n + 1) ⟨p.rd, p.fz, n :: p.wr⟩
  | nxt k, h, n, p => (k n).run h n p
end HM

structure TI where
  ty : Ty
  elem : TypeId := 0
  fields : List TypeId := []
  bytes : Nat := 8
  cmp : Bool := false
  arr : Bool := false
  /-- an interface type -/
  nil : Bool := false
  /-- the methods of its values -/
  meths : List (String × Nat) := []
structure Cx where
  tab : List (Nat × TI)
  /-- which arguments are handed on as they are (not as data) -/
  rawArg : FuncId → Nat → Bool
def Cx.ti (cx : Cx) (T : TypeId) : Option TI := go cx.tab
where
  go : List (Nat × TI) → Option TI
    | [] => none
    | (U, i) :: l => bif Nat.beq T U then some i else go l
def allSome {α : Type} : List (Option α) → Option (List α)
  | [] => some []
  | o :: l => match o, allSome l with
    | some a, some m => some (a :: m)
    | _, _ => none
def Cx.zeroRV (cx : Cx) : Nat → TypeId → Option RV
  | 0, _ => none
  | n + 1, T => match cx.ti T with
    | none => none
    | some i => match i.fields with
      | [] => match i.ty with
        | .list t => some (.nils i.elem t)
        | .opq => bif i.nil then some .nilI else bif i.arr then some .nilF else some .nilP
        | t => some (.dat t t.zero)
      | f :: fs => match allSome ((f :: fs).map (cx.zeroRV n)) with
        | some l => some (.agg l)
        | none => none
def constRV : Value → RV
  | .bool b => .dat .bool b
  | .int k n => .dat (.int k) n
  | .string s => .dat .str s.data.toList
  | .slice none 0 0 => .nilv
  | .pointer none => .nilP
  | .nilFunc => .nilF
  | .nilIface => .nilI
  | _ => .undef
/-- A nil slice constant, at its type. -/
def Cx.typ (cx : Cx) (T : TypeId) (r : RV) : RV := match r with
  | .nilv => match cx.ti T with
    | some i => match i.ty with
      | .list t => .nils i.elem t
      | _ => .undef
    | none => .undef
  | r => r

mutual
def toDat : RV → HM DV
  | .dat t x => .ret ⟨t, x⟩
  | .clip t xs => .ret ⟨.list t, xs⟩
  | .lim t xs _ => .ret ⟨.list t, xs⟩
  | .nils _ t => .ret ⟨.list t, []⟩
  | .own t o => .frz o (.rdc o fun b => match b with
    | .arr _ u xs _ => match u.list.cast? t.list xs with
      | some ys => .ret ⟨.list t, ys⟩
      | none => .fail
    | _ => .fail)
  | .view t o lo hi => .frz o (.rdc o fun b => match b with
    | .arr _ u xs _ => match u.list.cast? t.list xs with
      | some ys => .ret ⟨.list t, (List.take hi ys).drop lo⟩
      | none => .fail
    | _ => .fail)
  | .agg l => toDats l
  | _ => .fail
def toDats : List RV → HM DV
  | [] => .ret ⟨.unit, ()⟩
  | r :: l => (toDat r).bind fun d => (toDats l).bind fun e => .ret ⟨.pair d.t e.t, (d.x, e.x)⟩
end
def toTy (t : Ty) (r : RV) : HM t.den := (toDat r).bind fun d => HM.ofOpt (d.t.cast? t d.x)
-- does a value fit a place of a type?
mutual
def RV.fits : RV → Ty → Bool
  | .dat u _, t => decide (u = t)
  | .nils _ u, t => decide (Ty.list u = t)
  | .own u _, t => decide (Ty.list u = t)
  | .agg l, t => RV.fitsL l t
  | .ptr .., t => decide (t = .opq)
  | .fptr .., t => decide (t = .opq)
  | .fn .., t => decide (t = .opq)
  | .yld .., t => decide (t = .opq)
  | .iface .., t => decide (t = .opq)
  | .nilI, t => decide (t = .opq)
  | .nilF, t => decide (t = .opq)
  | .nilP, t => decide (t = .opq)
  | _, _ => false
def RV.fitsL : List RV → Ty → Bool
  | [], t => decide (t = .unit)
  | r :: l, t => match t with
    | .pair a b => r.fits a && RV.fitsL l b
    | _ => false
end
/-- A component of a value. -/
def RV.comp : RV → Nat → Option RV
  | .agg l, i => l[i]?
  | .dat t x, i => (t.proj x i).map fun d => .dat d.t d.x
  | _, _ => none
def RV.atPath : RV → List Nat → Option RV
  | r, [] => some r
  | r, i :: p => match r.comp i with
    | some s => s.atPath p
    | none => none
def RV.open_ : RV → Option (List RV)
  | .agg l => some l
  | .dat t x => bif t.chain then some ((t.parts x).map fun d => .dat d.t d.x) else none
  | _ => none
def RV.setPath : List Nat → RV → RV → Option RV
  | [], _, v => some v
  | i :: p, r, v => match r.open_ with
    | some l => match l[i]? with
      | some s => match RV.setPath p s v with
        | some s' => some (.agg (l.set i s'))
        | none => none
      | none => none
    | none => none

def bytesOfS (l : List UInt8) : List Int := l.map fun b => (b.toNat : Int)
def sOfBytes (l : List Int) : List UInt8 := l.map fun n => UInt8.ofNat n.toNat
def roomMax : Nat := 140737488355328
/-- The content of a slice, read and not kept. -/
def elems (r : RV) : HM DV := match r with
  | .own t o => .rdc o fun b => match b with
    | .arr _ u xs _ => .ret ⟨.list u, xs⟩
    | _ => .fail
  | .view t o lo hi => .rdc o fun b => match b with
    | .arr _ u xs _ => bif decide (u = t) then .ret ⟨.list u, (xs.take hi).drop lo⟩ else .fail
    | _ => .fail
  | .dat .str s => .ret ⟨.list (.int .u8), bytesOfS s⟩
  | r => toDat r
def isStrTy (cx : Cx) (T : TypeId) : Bool := match cx.ti T with
  | some j => decide (j.ty = .str)
  | none => false
def lenOf (r : RV) : HM Nat := match r with
  | .dat (.list _) xs => .ret xs.length
  | .dat .str xs => .ret xs.length
  | .clip _ xs => .ret xs.length
  | .nils _ _ => .ret 0
  | .own t o => .rdc o fun b => match b with
    | .arr _ _ xs _ => .ret xs.length
    | _ => .fail
  | .view _ _ lo hi => .ret (hi - lo)
  | _ => .fail
def intBin (op : BinOp) (k : IntKind) (a b : Int) : HM RV :=
  match op with
  | .add => .ret (.dat (.int k) (k.wrap (a + b)))
  | .sub => .ret (.dat (.int k) (k.wrap (a - b)))
  | .mul => .ret (.dat (.int k) (k.wrap (a * b)))
  | .quo => .br (decide (b = 0)) .fail (.ret (.dat (.int k) (k.wrap (a.tdiv b))))
  | .rem => .br (decide (b = 0)) .fail (.ret (.dat (.int k) (a.tmod b)))
  | .and => .ret (.dat (.int k) (k.wrap (BitVec.ofInt k.bits a &&& BitVec.ofInt k.bits b).toNat))
  | .or => .ret (.dat (.int k) (k.wrap (BitVec.ofInt k.bits a ||| BitVec.ofInt k.bits b).toNat))
  | .xor => .ret (.dat (.int k) (k.wrap (BitVec.ofInt k.bits a ^^^ BitVec.ofInt k.bits b).toNat))
  | .andNot => .ret (.dat (.int k) (k.wrap (BitVec.ofInt k.bits a &&& ~~~(BitVec.ofInt k.bits b)).toNat))
  | .eql => .ret (.dat .bool (decide (a = b)))
  | .neq => .ret (.dat .bool (!decide (a = b)))
  | .lss => .ret (.dat .bool (decide (a < b)))
  | .leq => .ret (.dat .bool (decide (a ≤ b)))
  | .gtr => .ret (.dat .bool (decide (a > b)))
  | .geq => .ret (.dat .bool (decide (a ≥ b)))
  | _ => .fail
def shiftOp (op : BinOp) (k : IntKind) (a b : Int) : HM RV :=
  match op with
  | .shl => .br (decide (b < 0)) .fail (.ret (.dat (.int k) (k.wrap (a * 2 ^ (min b.toNat k.bits)))))
  | .shr => .br (decide (b < 0)) .fail (.ret (.dat (.int k) (a.fdiv (2 ^ (min b.toNat k.bits)))))
  | _ => .fail
def strBin (op : BinOp) (x y : List UInt8) : HM RV :=
  match op with
  | .add => .chk (decide (x.length + y.length ≤ roomMax)) (.ret (.dat .str (x ++ y)))
  | .eql => .ret (.dat .bool (decide (x = y)))
  | .neq => .ret (.dat .bool (!decide (x = y)))
  | .lss => .ret (.dat .bool (Op.bytesLess x y))
  | .leq => .ret (.dat .bool (Op.bytesLess x y || decide (x = y)))
  | .gtr => .ret (.dat .bool (!(Op.bytesLess x y || decide (x = y))))
  | .geq => .ret (.dat .bool (!(Op.bytesLess x y)))
  | _ => .fail
def Cx.isTy (cx : Cx) (T : TypeId) (t : Ty) : Bool := match cx.ti T with
  | some i => decide (i.ty = t)
  | none => false
def Cx.isTyO (cx : Cx) (T : TypeId) (t : Option Ty) : Bool := match t with
  | some t => cx.isTy T t
  | none => false
def binAct (cx : Cx) (op : BinOp) (T : TypeId) (x y : RV) : HM RV :=
  match x, y with
  | .dat (.int k) a, .dat (.int k') b => match op with
    | .shl => shiftOp op k a b
    | .shr => shiftOp op k a b
    | _ => bif decide (k = k') then intBin op k a b else .fail
  | .dat .str a, .dat .str b => strBin op a b
  | .dat (.int k) a, .atl m => match op with
    | .gtr => bif decide (k = .i64) then .chk (decide (a ≤ (m : Int))) (.ret (.dat .bool false)) else .fail
    | _ => .fail
  | .dat .bool a, .dat .bool b => bif cx.isTy T .bool then match op with
    | .eql => .ret (.dat .bool (a == b))
    | .neq => .ret (.dat .bool (!(a == b)))
    | _ => .fail
    else .fail
  | x, y => match cx.ti T with
    | some i => bif i.cmp && i.ty.cmp && i.ty.isAgg then (toTy i.ty x).bind fun a => (toTy i.ty y).bind fun b => match op with
        | .eql => .ret (.dat .bool (i.ty.eqb a b))
        | .neq => .ret (.dat .bool (!(i.ty.eqb a b)))
        | _ => .fail
      else .fail
    | none => .fail
/-- A value of an interface type, compared with nil. -/
def nilAct (cx : Cx) (op : BinOp) (T : TypeId) (x : RV) : HM RV := match cx.ti T with
  | some i => bif i.nil then (match x, op with
    | .iface _ _, .eql => .ret (.dat .bool false)
    | .iface _ _, .neq => .ret (.dat .bool true)
    | .nilI, .eql => .ret (.dat .bool true)
    | .nilI, .neq => .ret (.dat .bool false)
    | _, _ => .fail) else .fail
  | none => .fail
def methAt : List (String × Nat) → String → Option Nat
  | [], _ => none
  | (n, f) :: l, nm => bif n == nm then some f else methAt l nm
def unAct (op : UnOp) (x : RV) : HM RV := match op, x with
  | .neg, .dat (.int k) a => .ret (.dat (.int k) (k.wrap (0 - a)))
  | .not, .dat .bool a => .ret (.dat .bool (!a))
  | .xor, .dat (.int k) a => .ret (.dat (.int k) (k.wrap (BitVec.ofInt k.bits (if k.signed then -1 else k.max) ^^^ BitVec.ofInt k.bits a).toNat))
  | _, _ => .fail
def RV.isStr : RV → Bool
  | .dat .str _ => true | _ => false
def convAct (cx : Cx) (S T : TypeId) (x : RV) : HM RV := match cx.ti S, cx.ti T with
  | some i, some j => match i.ty, j.ty with
    | .int _, .int k => match x with
      | .dat (.int _) a => .ret (.dat (.int k) (k.wrap a))
      | _ => .fail
    | .str, .str => match x with
      | .dat .str a => .ret (.dat .str a)
      | _ => .fail
    | .str, .list (.int .u8) => match x with
      | .dat .str a => .chk (decide (a.length ≤ roomMax)) (.nw (.arr j.elem (.int .u8) (bytesOfS a) false) fun o => .ret (.own (.int .u8) o))
      | _ => .fail
    | .list (.int .u8), .str => bif x.isStr then .fail else (elems x).bind fun d => (HM.ofOpt (d.t.cast? (.list (.int .u8)) d.x)).bind fun l => .ret (.dat .str (sOfBytes l))
    | _, _ => .fail
  | _, _ => .fail
def asInt? : RV → Option Int
  | .dat (.int _) a => some a
  | _ => none
def asBool? : RV → Option Bool
  | .dat .bool a => some a
  | _ => none
def bInt : Option RV → Option (Option Int)
  | none => some none
  | some r => (asInt? r).map some
/-- x[lo:hi:mx] -/
def sliceAct0 (cx : Cx) (T : TypeId) (x : RV) (lo hi mx : Option Int) : HM RV :=
  match x with
  | .dat .str s => match mx with
    | some _ => .fail
    | none => bif cx.isTy T .str then
      .chk (decide (0 ≤ lo.getD 0) && decide (lo.getD 0 ≤ hi.getD (s.length : Int)) && decide (hi.getD (s.length : Int) ≤ (s.length : Int))) (.ret (.dat .str ((s.take (hi.getD (s.length : Int)).toNat).drop (lo.getD 0).toNat)))
      else .fail
  | .own t o => match mx with
    | some m => match hi with
      | none => .fail
      | some h => bif cx.isTy T (.list t) then .rdc o fun b => match b with
        | .arr _ u xs _ => bif decide (u = t) then
          .chk (decide (0 ≤ lo.getD 0) && decide (lo.getD 0 ≤ h) && decide (h ≤ m) && decide (m ≤ (xs.length : Int))) (.ret .undef)
          else .fail
        | _ => .fail
        else .fail
    | none => bif cx.isTy T (.list t) then .rdc o fun b => match b with
      | .arr _ u xs _ => bif decide (u = t) then
        .chk (decide (0 ≤ lo.getD 0) && decide (lo.getD 0 ≤ hi.getD (xs.length : Int)) && decide (hi.getD (xs.length : Int) ≤ (xs.length : Int))) (.ret (.view t o (lo.getD 0).toNat (hi.getD (xs.length : Int)).toNat))
        else .fail
      | _ => .fail
      else .fail
  | .view t o a z => match mx with
    | some _ => .fail
    | none => bif cx.isTy T (.list t) then .rdc o fun b => match b with
      | .arr _ u xs _ => bif decide (u = t) then
        .chk (decide (0 ≤ lo.getD 0) && decide (lo.getD 0 ≤ hi.getD ((z - a : Nat) : Int)) && decide (hi.getD ((z - a : Nat) : Int) ≤ ((xs.length - a : Nat) : Int))) (.ret (.view t o (a + (lo.getD 0).toNat) (a + (hi.getD ((z - a : Nat) : Int)).toNat)))
        else .fail
      | _ => .fail
      else .fail
  | .nils e t => match mx with
    | some _ => .fail
    | none => bif cx.isTy T (.list t) then .chk (decide (lo.getD 0 = 0) && decide (hi.getD 0 = 0)) (.ret (.nils e t)) else .fail
  | x => (toDat x).bind fun d => match d with
    | ⟨.list t, xs⟩ => bif cx.isTy T (.list t) then
      match mx with
      | none => .chk (decide (0 ≤ lo.getD 0) && decide (lo.getD 0 ≤ hi.getD (xs.length : Int)) && decide (hi.getD (xs.length : Int) ≤ (xs.length : Int))) (.ret (.dat (.list t) ((xs.take (hi.getD (xs.length : Int)).toNat).drop (lo.getD 0).toNat)))
      | some m => match hi with
        | some h => .chk (decide (0 ≤ lo.getD 0) && decide (lo.getD 0 ≤ h) && decide (h ≤ (xs.length : Int)) && decide (h = m)) (.ret (.clip t ((xs.take h.toNat).drop (lo.getD 0).toNat)))
        | none => .fail
      else .fail
    | _ => .fail
def sliceAct (cx : Cx) (T : TypeId) (x : RV) (lo hi mx : Option Int) : HM RV :=
  match x, lo, hi, mx with
  | .clip t xs, none, some h, none => bif cx.isTy T (.list t) then .chk (decide (0 ≤ h) && decide (h ≤ (xs.length : Int))) (.ret (.lim t (xs.take h.toNat) xs.length)) else .fail
  | x, lo, hi, mx => sliceAct0 cx T x lo hi mx
/-- A place among the first ones: a choice between them. -/
def idxIn {α : Type} (k : Nat) (f : Nat → HM α) : Nat → HM α
  | 0 => .fail
  | n + 1 => .br (Nat.beq k n) (f n) (idxIn k f n)
def indexAddrAct (cx : Cx) (T : TypeId) (x : RV) (i : Int) : HM RV :=
  match x with
  | .own t o => bif cx.isTy T (.list t) then .rdc o fun b => match b with
    | .arr _ u xs _ => bif decide (u = t) then .chk (decide (0 ≤ i) && decide (i < (xs.length : Int))) (.ret (.ptr o t i.toNat [])) else .fail
    | _ => .fail
    else .fail
  | .view t o lo hi => bif cx.isTy T (.list t) then .chk (decide (0 ≤ i) && decide (i < ((hi - lo : Nat) : Int))) (.ret (.ptr o t (lo + i.toNat) [])) else .fail
  | .ptr o t j p => bif cx.isTyO T (t.at_ p) then match cx.ti T with
    | some ti => bif ti.arr && ti.ty.isAgg then .chk (decide (0 ≤ i) && decide (i < (ti.fields.length : Int))) (idxIn i.toNat (fun k => .ret (.ptr o t j (p ++ [k]))) ti.fields.length) else .fail
    | none => .fail
    else .fail
  | .fptr t v => bif cx.isTy T t then match cx.ti T with
    | some ti => bif ti.arr && ti.ty.isAgg then .chk (decide (0 ≤ i) && decide (i < (ti.fields.length : Int))) (idxIn i.toNat (fun k => (HM.ofOpt (t.proj v k)).bind fun d => .ret (.fptr d.t d.x)) ti.fields.length) else .fail
    | none => .fail
    else .fail
  | .gp b off l => match cx.ti T with
    | some ti => bif ti.arr && ti.ty.isAgg then .chk (decide (0 ≤ i) && decide (i < (ti.fields.length : Int))) (idxIn i.toNat (fun k => .ret (.gp b (off + ti.ty.offs k) (l.drop (ti.ty.offs k)))) ti.fields.length) else .fail
    | none => .fail
  | .dat (.list t) xs => bif cx.isTy T (.list t) then .chk (decide (0 ≤ i) && decide (i < (xs.length : Int))) (.ret (.fptr t (xs.getD i.toNat t.zero))) else .fail
  | .clip t xs => bif cx.isTy T (.list t) then .chk (decide (0 ≤ i) && decide (i < (xs.length : Int))) (.ret (.fptr t (xs.getD i.toNat t.zero))) else .fail
  | _ => .fail
def indexAct (cx : Cx) (T : TypeId) (x : RV) (i : Int) : HM RV := match x with
  | .dat .str s => bif cx.isTy T .str then .chk (decide (0 ≤ i) && decide (i < (s.length : Int))) (.ret (.dat (.int .u8) ((s.getD i.toNat 0).toNat : Int))) else .fail
  | _ => .fail
def fieldAddrAct (cx : Cx) (T : TypeId) (x : RV) (f : Nat) : HM RV := match cx.ti T with
  | some ti => bif !ti.arr && ti.ty.isAgg && Nat.blt f ti.fields.length then match x with
    | .ptr o t j p => bif cx.isTyO T (t.at_ p) then .ret (.ptr o t j (p ++ [f])) else .fail
    | .fptr t v => bif cx.isTy T t then (HM.ofOpt (t.proj v f)).bind fun d => .ret (.fptr d.t d.x) else .fail
    | _ => .fail
    else .fail
  | none => .fail
def fieldAct (cx : Cx) (T : TypeId) (x : RV) (f : Nat) : HM RV := match cx.ti T with
  | some i => bif !i.arr && i.ty.isAgg && Nat.blt f i.fields.length && x.fits i.ty then HM.ofOpt (x.comp f) else .fail
  | none => .fail
def gfn : Option Nat → RV
  | some f => .fn f [] [] | none => .nilF
def loadAct (cx : Cx) (T : TypeId) (a : RV) : HM RV := match a with
  | .gp _ _ l => bif cx.isTy T .opq then (HM.ofOpt l.head?).bind fun x => .ret (gfn x) else .fail
  | .fptr t v => bif cx.isTy T t then .ret (.dat t v) else .fail
  | .ptr o s i p => bif cx.isTyO T (s.at_ p) then .rdc o fun b => match b with
    | .arr _ t xs _ => bif decide (s = t) then (HM.ofOpt (DV.at_ ⟨t, xs.getD i t.zero⟩ p)).bind fun d => .ret (.dat d.t d.x) else .fail
    | .box _ t r => bif decide (s = t) then HM.ofOpt (r.atPath p) else .fail
    | _ => .fail
    else .fail
  | _ => .fail
/-- What a place in a box may hold: views and clips are taken as data. -/
def boxed (v : RV) : HM RV := match v with
  | .view .. => (toDat v).bind fun d => .ret (.dat d.t d.x)
  | .clip t xs => .ret (.dat (.list t) xs)
  | v => .ret v
def storeAct (cx : Cx) (T : TypeId) (a v : RV) : HM RV := match a with
  | .ptr o s i p => bif cx.isTyO T (s.at_ p) then .rdc o fun b => match b with
    | .arr _ _ _ _ => (toDat v).bind fun d => .rdw o fun b => match b with
      | .arr e t xs fz => bif decide (s = t) && !fz && cx.isTy T d.t then
          (HM.ofOpt (t.setAt (xs.getD i t.zero) p d)).bind fun y => .wr o (.arr e t (xs.set i y) false) (.ret .undef)
        else .fail
      | _ => .fail
    | .box _ _ _ => (boxed v).bind fun v => .rdw o fun b => match b with
      | .box U t r => bif decide (s = t) then match t.at_ p with
        | some u => bif v.fits u then (HM.ofOpt (r.setPath p v)).bind fun r' => .wr o (.box U t r') (.ret .undef) else .fail
        | none => .fail
        else .fail
      | _ => .fail
    | _ => .fail
    else .fail
  | _ => .fail
def boxAct (cx : Cx) (T : TypeId) (v : RV) : HM RV := match cx.ti T with
  | some i => (boxed (cx.typ T v)).bind fun v => bif v.fits i.ty then .nw (.box T i.ty v) fun o => .ret (.ptr o i.ty 0 []) else .fail
  | none => .fail
def allocAct (cx : Cx) (T : TypeId) : HM RV := match cx.zeroRV 20 T with
  | some v => boxAct cx T v
  | none => .fail
def buildAct (cx : Cx) (T : TypeId) (parts : List (Nat × RV)) : HM RV := match cx.ti T, cx.zeroRV 20 T with
  | some i, some (.agg l) => go i l parts
  | _, _ => .fail
where
  go (i : TI) : List RV → List (Nat × RV) → HM RV
    | l, [] => .ret (.agg l)
    | l, (j, v) :: r => match i.fields[j]?, i.ty.nth j with
      | some U, some u => (boxed (cx.typ U v)).bind fun v => bif v.fits u then go i (l.set j v) r else .fail
      | _, _ => .fail
def buildSliceAct (cx : Cx) (T : TypeId) (len : Nat) (parts : List (Nat × RV)) : HM RV := match cx.ti T with
  | some i => match i.ty with
    | .list t => bif Nat.ble (len * t.size) 100000 then (go t (List.replicate len t.zero) parts).bind fun xs => .nw (.arr i.elem t xs false) fun o => .ret (.own t o) else .fail
    | _ => .fail
  | none => .fail
where
  go (t : Ty) : List t.den → List (Nat × RV) → HM (List t.den)
    | xs, [] => .ret xs
    | xs, (j, v) :: r => match xs[j]? with
      | some _ => (toTy t v).bind fun y => go t (xs.set j y) r
      | none => .fail
def makeSliceAct (cx : Cx) (T : TypeId) (n c : Int) : HM RV := match cx.ti T with
  | some i => match i.ty with
    | .list t => .chk (decide (0 ≤ n) && decide (n ≤ c) && decide (c * i.bytes ≤ (roomMax : Int))) (.nw (.arr i.elem t (List.replicate n.toNat t.zero) false) fun o => .ret (.own t o))
    | _ => .fail
  | none => .fail
def srcTy (cx : Cx) (T : TypeId) : Bool := match cx.ti T with
  | some j => match j.ty with
    | .list _ => true
    | .str => true
    | _ => false
  | none => false
/-- A part of the same array? -/
def viewOf (x : RV) (o : Nat) : Bool := match x with
  | .view _ o' _ _ => Nat.beq o' o
  | _ => false
/-- append(nil, make([]T, n)...). -/
def appendZ0 (cx : Cx) (T T2 : TypeId) (s x : RV) : HM RV := match s, x with
  | .nils _ _, .dat (.int k) n => bif cx.isTy T2 (.int k) then match cx.ti T with
    | some i => match i.ty with
      | .list t => .chk (decide (0 < n) && decide (n * i.bytes ≤ (roomMax : Int))) (.nw (.arr i.elem t (List.replicate n.toNat t.zero) false) fun o => .ret (.own t o))
      | _ => .fail
    | none => .fail
    else .fail
  | _, _ => .fail
def appendZ (cx : Cx) (T T2 : TypeId) (s x : RV) : HM RV := match s, x with
  | .lim u xs c, .dat (.int k) n => bif cx.isTy T2 (.int k) then match cx.ti T with
    | some i => match i.ty with
      | .list t => (HM.ofOpt (u.list.cast? t.list xs)).bind fun xs => .chk (decide (0 < n) && decide ((c : Int) < xs.length + n) && decide ((xs.length + n) * i.bytes ≤ (roomMax : Int))) (.nw (.arr i.elem t (xs ++ List.replicate n.toNat t.zero) false) fun o => .ret (.own t o))
      | _ => .fail
    | none => .fail
    else .fail
  | s, x => appendZ0 cx T T2 s x
def appendAct (cx : Cx) (T T2 : TypeId) (s x : RV) : HM RV := bif srcTy cx T2 then match cx.ti T with
  | some i => match i.ty with
    | .list t => (elems x).bind fun d => (HM.ofOpt (d.t.cast? (.list t) d.x)).bind fun ys => match s with
      | .nils _ _ => .chk (decide (ys.length * i.bytes ≤ roomMax)) (.nw (.arr i.elem t ys false) fun o => .ret (.own t o))
      | .own _ o => .rdw o fun b => match b with
        | .arr e u xs fz => (HM.ofOpt (u.list.cast? t.list xs)).bind fun xs => bif Nat.beq e i.elem then
            .chk (decide ((xs.length + ys.length) * i.bytes ≤ roomMax)) (.wr o .gone (.nw (.arr e t (xs ++ ys) fz) fun o => .ret (.own t o)))
          else .fail
        | _ => .fail
      | .view _ o 0 hi => bif viewOf x o then .rdw o fun b => match b with
        | .arr e u xs fz => (HM.ofOpt (u.list.cast? t.list xs)).bind fun xs => bif Nat.beq e i.elem && !fz then
            .chk (decide (hi + ys.length ≤ xs.length)) (.wr o (.arr e t (xs.take hi ++ ys ++ xs.drop (hi + ys.length)) false) (.ret (.view t o 0 (hi + ys.length))))
          else .fail
        | _ => .fail
        else .rdw o fun b => match b with
        | .arr e u xs fz => (HM.ofOpt (u.list.cast? t.list xs)).bind fun xs => bif Nat.beq e i.elem && !fz then
            .chk (decide (((xs.take hi).length + ys.length) * i.bytes ≤ roomMax)) (.wr o .gone (.nw (.arr e t (xs.take hi ++ ys) false) fun o => .ret (.own t o)))
          else .fail
        | _ => .fail
      | .clip u xs => (HM.ofOpt (u.list.cast? t.list xs)).bind fun xs =>
            .chk (decide (0 < ys.length) && decide ((xs.length + ys.length) * i.bytes ≤ roomMax)) (.nw (.arr i.elem t (xs ++ ys) false) fun o => .ret (.own t o))
      | _ => .fail
    | _ => .fail
  | none => .fail
  else appendZ cx T T2 s x
def minmax (mx : Bool) : RV → List RV → HM RV
  | x, [] => .ret x
  | .dat (.int k) a, .dat (.int k') b :: l => bif decide (k = k') then minmax mx (.dat (.int k) (if (if mx then a < b else b < a) then b else a)) l else .fail
  | .dat .str a, .dat .str b :: l =>
    minmax mx (.dat .str (bif (bif mx then !(Op.bytesLess a b) else (Op.bytesLess a b || decide (a = b))) then a else b)) l
  | _, _ => .fail
/-- copy(d, s): the elements of an array of the call's own are written. -/
def copyAct (cx : Cx) (T : TypeId) (d s : RV) : HM RV := match d with
  | .own t o => bif cx.isTy T (.list t) then (elems s).bind fun e => .rdw o fun b => match b with
    | .arr f u xs fz => (HM.ofOpt (e.t.cast? (.list u) e.x)).bind fun ys => bif decide (u = t) && !fz then
        .wr o (.arr f u (xs.take 0 ++ ys.take xs.length ++ xs.drop (0 + (ys.take xs.length).length)) false) (.ret (.dat (.int .i64) ((ys.take xs.length).length : Int))) else .fail
    | _ => .fail
    else .fail
  | .view t o lo hi => bif cx.isTy T (.list t) then (elems s).bind fun e => .rdw o fun b => match b with
    | .arr f u xs fz => (HM.ofOpt (e.t.cast? (.list u) e.x)).bind fun ys => bif decide (u = t) && !fz then
        .wr o (.arr f u (xs.take lo ++ ys.take (hi - lo) ++ xs.drop (lo + (ys.take (hi - lo)).length)) false) (.ret (.dat (.int .i64) ((ys.take (hi - lo)).length : Int))) else .fail
    | _ => .fail
    else .fail
  | _ => .fail
/-- clear(d): an array of the call's own, or a part of it, becomes zero. -/
def clearAct (cx : Cx) (T : TypeId) (d : RV) : HM RV := match d with
  | .own t o => bif cx.isTy T (.list t) then .rdw o fun b => match b with
    | .arr e u xs fz => bif decide (u = t) && !fz then .wr o (.arr e u (xs.take 0 ++ List.replicate xs.length u.zero ++ xs.drop (0 + xs.length)) false) (.ret (.tup [])) else .fail
    | _ => .fail
    else .fail
  | .view t o lo hi => bif cx.isTy T (.list t) then .rdw o fun b => match b with
    | .arr e u xs fz => bif decide (u = t) && !fz then .wr o (.arr e u (xs.take lo ++ List.replicate (hi - lo) u.zero ++ xs.drop (lo + (hi - lo))) false) (.ret (.tup [])) else .fail
    | _ => .fail
    else .fail
  | .nils _ _ => .ret (.tup [])
  | _ => .fail
/-- The letter at a place, and how long it is. -/
def runeAt (s : List UInt8) (pos : Int) : Int × Int := (((Utf8.decode ⟨⟨s⟩⟩ pos.toNat).1 : Int), ((Utf8.decode ⟨⟨s⟩⟩ pos.toNat).2 : Int))
def rangeAct (cx : Cx) (T : TypeId) (x : RV) : HM RV := match x with
  | .dat .str s => bif cx.isTy T .str then .nw (.iter s 0) fun o => .ret (.ptr o .unit 0 []) else .fail
  | _ => .fail
def nextAct (x : RV) : HM RV := match x with
  | .ptr o .unit 0 [] => .rdw o fun b => match b with
    | .iter s pos => .br (decide (pos < (s.length : Int))) (.wr o (.iter s (pos + (runeAt s pos).2)) (.ret (.tup [.dat .bool true, .dat (.int .i64) pos, .dat (.int .i32) (runeAt s pos).1]))) (.ret (.tup [.dat .bool false]))
    | _ => .fail
  | _ => .fail
/-- How far a slice may grow. -/
def capAct (cx : Cx) (T : TypeId) (x : RV) : HM RV := match x with
  | .nils _ t => bif cx.isTy T (.list t) then .ret (.dat (.int .i64) (0 : Int)) else .fail
  | .clip t xs => bif cx.isTy T (.list t) then .ret (.dat (.int .i64) (xs.length : Int)) else .fail
  | .own t o => bif cx.isTy T (.list t) then .rdc o fun b => match b with
    | .arr _ u xs _ => .ret (.atl xs.length)
    | _ => .fail
    else .fail
  | .view t o lo hi => bif cx.isTy T (.list t) then .rdc o fun b => match b with
    | .arr _ u xs _ => .ret (.atl (xs.length - lo))
    | _ => .fail
    else .fail
  | _ => .fail
def builtinAct (cx : Cx) (b : Builtin) (Ts : List TypeId) (args : List RV) : HM RV :=
  match b, Ts, args with
  | .len, [T], [x] => bif srcTy cx T && (isStrTy cx T == x.isStr) then (lenOf x).bind fun n => .ret (.dat (.int .i64) (n : Int)) else .fail
  | .append, [T, T2], [s, x] => appendAct cx T T2 s x
  | .min, _, x :: l => minmax false x l
  | .max, _, x :: l => minmax true x l
  | .clear, [T], [x] => bif srcTy cx T then clearAct cx T x else .fail
  | .copy, [T, T2], [d, s] => bif srcTy cx T2 then copyAct cx T d s else .fail
  | .cap, [T], [x] => capAct cx T x
  | _, _, _ => .fail
end Go.X
/- The engine, part B: the evaluator of operations, regions, code and functions. -/
set_option linter.unusedVariables false
namespace Go.X

mutual
def RV.ids : RV → List Nat
  | .own _ o => [o] | .view _ o _ _ => [o] | .ptr o _ _ _ => [o] | .yld _ o => [o]
  | .agg l => RV.idsL l | .tup l => RV.idsL l | .fn _ a b => RV.idsL a ++ RV.idsL b | .iface _ r => r.ids | .dfr _ a b _ _ => RV.idsL a ++ RV.idsL b
  | _ => []
def RV.idsL : List RV → List Nat
  | [] => [] | r :: l => r.ids ++ RV.idsL l
end
mutual
def RV.ren (ρ : Nat → Nat) : RV → RV
  | .own t o => .own t (ρ o) | .view t o a b => .view t (ρ o) a b | .ptr o t i p => .ptr (ρ o) t i p | .yld Y o => .yld Y (ρ o)
  | .agg l => .agg (RV.renL ρ l) | .tup l => .tup (RV.renL ρ l) | .fn f a b => .fn f (RV.renL ρ a) (RV.renL ρ b) | .iface T r => .iface T (r.ren ρ) | .dfr f a b t xs => .dfr f (RV.renL ρ a) (RV.renL ρ b) t xs
  | r => r
def RV.renL (ρ : Nat → Nat) : List RV → List RV
  | [] => [] | r :: l => r.ren ρ :: RV.renL ρ l
end
def Regs.ids : Regs → List Nat
  | [] => [] | (_, r) :: l => r.ids ++ Regs.ids l
def Regs.ren (ρ : Nat → Nat) : Regs → Regs
  | [] => [] | (d, r) :: l => (d, r.ren ρ) :: Regs.ren ρ l
def Ob.ids : Ob → List Nat
  | .box _ _ r => r.ids | .loop _ R _ => Regs.ids R | _ => []
def Ob.ren (ρ : Nat → Nat) : Ob → Ob
  | .box T t r => .box T t (r.ren ρ) | .loop Y R p => .loop Y (Regs.ren ρ R) p | b => b
def idx (l : List Nat) (o : Nat) : Nat := go l 0
where
  go : List Nat → Nat → Nat
    | [], n => n
    | a :: l, n => bif Nat.beq a o then n else go l (n + 1)
def has (l : List Nat) (o : Nat) : Bool := match l with
  | [] => false
  | a :: l => Nat.beq a o || has l o
/-- All objects that are reached, in the order in which they are met. -/
def gather : Nat → List Nat → List Nat → List Ob → HM (List Nat × List Ob)
  | 0, _, _, _ => .fail
  | _ + 1, [], done, obs => .ret (done, obs)
  | n + 1, o :: todo, done, obs => bif has done o then gather n todo done obs
    else .rdw o fun b => gather n (todo ++ b.ids) (done ++ [o]) (obs ++ [b])

abbrev Gam := FuncId → List RV → List Ob → DT (RV × List Ob)
def argDat (r : RV) : HM RV := match r with
  | .agg l => (toDats l).bind fun d => .ret (.dat d.t d.x)
  | .own t o => (toDat (.own t o)).bind fun d => .ret (.dat d.t d.x)
  | .view t o a b => (toDat (.view t o a b)).bind fun d => .ret (.dat d.t d.x)
  | .nils _ t => .ret (.dat (.list t) [])
  | .clip t xs => .ret (.dat (.list t) xs)
  | r => .ret r
def argsAct (cx : Cx) (f : FuncId) : Nat → List RV → HM (List RV)
  | _, [] => .ret []
  | j, r :: l => (bif cx.rawArg f j then .ret r else argDat r).bind fun r' => (argsAct cx f (j + 1) l).bind fun l' => .ret (r' :: l')
def putBack (ρ : Nat → Nat) : List Nat → List Ob → HM Unit
  | [], [] => .ret ()
  | [], b :: l => .nw (b.ren ρ) fun _ => putBack ρ [] l
  | o :: os, b :: l => .wr o (b.ren ρ) (putBack ρ os l)
  | _ :: _, [] => .fail
def callAct (cx : Cx) (Γ : Gam) (f : FuncId) (args : List RV) : HM RV :=
  (argsAct cx f 0 args).bind fun args => (gather 200 (RV.idsL args) [] []).bind fun (done, obs) =>
    (HM.ofDT (Γ f (RV.renL (idx done) args) (obs.map (Ob.ren (idx done))))).bind fun (r, obs') =>
      .nxt fun n => (putBack (fun i => done.getD i (n + (i - done.length))) done obs').bind fun _ =>
        .ret (r.ren (fun i => done.getD i (n + (i - done.length))))
def typs (cx : Cx) : List TypeId → List RV → List RV
  | T :: Ts, r :: l => cx.typ T r :: typs cx Ts l
  | _, l => l
def isNilC (y : Operand) : Bool := match y with
  | .const .nilIface => true
  | _ => false
/-- A range over a function: its parameters, the assignment to its left sides, its body; how many temporaries there are. -/
structure RC where
  params : List Nat
  assign : Code
  body : Code
  nt : Nat
/-- What a program's proofs are over: the ranges over functions, by number; the variables that are laid. -/
class Env where
  code : Nat → Option RC
  glob : Nat → List (Option Nat)
section
variable [Env]
/-- The number of a round. -/
def isRnd (f : Nat) : Bool := (Env.code f).isSome
def opAct (cx : Cx) (Γ : Gam) (o : Oper) (ev : Operand → RV) : HM RV :=
  match o.op with
  | .move x => .ret (cx.typ o.type (ev x))
  | .assign x => .ret (cx.typ o.type (ev x))
  | .pick c a b => match asBool? (ev c) with
    | some t => .br t (.ret (ev a)) (.ret (ev b))
    | none => .fail
  | .alloc T => allocAct cx T
  | .box T x => boxAct cx T (ev x)
  | .build T ps => buildAct cx T (ps.toList.map fun p => (p.1, ev p.2))
  | .buildSlice T n ps => buildSliceAct cx T n (ps.toList.map fun p => (p.1, ev p.2))
  | .load T a => loadAct cx T (ev a)
  | .store T a x => storeAct cx T (ev a) (cx.typ T (ev x))
  | .nilCheck x => match ev x with
    | .ptr o t i p => .ret (.ptr o t i p)
    | .fptr t x => .ret (.fptr t x)
    | _ => .fail
  | .binOp b T x y _ => bif isNilC y then nilAct cx b T (ev x) else binAct cx b T (ev x) (ev y)
  | .unOp b _ x => unAct b (ev x)
  | .convert S T x => convAct cx S T (ev x)
  | .makeFunc (.func f) a b => .ret (.fn f (a.toList.map ev) (b.toList.map ev))
  | .makeInterface T x => match cx.ti T with
    | some i => bif decide (i.ty = .opq) then .fail else .ret (.iface T (ev x))
    | none => .fail
  | .makeSlice T l c => match asInt? (ev l), asInt? (ev c) with
    | some l, some c => makeSliceAct cx T l c
    | _, _ => .fail
  | .slice T x lo hi mx => match bInt (lo.map ev), bInt (hi.map ev), bInt (mx.map ev) with
    | some l, some h, some m => sliceAct cx T (ev x) l h m
    | _, _, _ => .fail
  | .fieldAddr T x f => fieldAddrAct cx T (ev x) f
  | .field T x f => fieldAct cx T (ev x) f
  | .indexAddr T x i => match asInt? (ev i) with
    | some i => indexAddrAct cx T (ev x) i
    | none => .fail
  | .index T x i => match asInt? (ev i) with
    | some i => indexAct cx T (ev x) i
    | none => .fail
  | .range T x => rangeAct cx T (ev x)
  | .next x b => bif b then nextAct (ev x) else .fail
  | .extract x j => match ev x with
    | .tup l => HM.ofOpt l[j]?
    | _ => .fail
  | .call c => match c.callee with
    | .builtin b => builtinAct cx b c.argTypes.toList (typs cx c.argTypes.toList (c.args.toList.map ev))
    | .value f => match ev f with
      | .fn g first caps => bif isRnd g then .fail else callAct cx Γ g (first ++ typs cx c.argTypes.toList (c.args.toList.map ev) ++ caps)
      | .yld Y o => bif isRnd Y then callAct cx Γ Y (.yld Y o :: typs cx c.argTypes.toList (c.args.toList.map ev)) else .fail
      | _ => .fail
    | .invoke x nm => match ev x with
      | .iface T r => match cx.ti T with
        | some i => match methAt i.meths nm with
          | some f => bif isRnd f then .fail else callAct cx Γ f (r :: typs cx c.argTypes.toList (c.args.toList.map ev))
          | none => .fail
        | none => .fail
      | _ => .fail
  | _ => .fail

/-- The register of the calls that are deferred. -/
def gd : Nat := 1000000000
def evalO (R : Regs) : Operand → RV
  | .tmp t => bif Nat.beq t gd then .undef else (R.get t).getD .undef
  | .const v => constRV v
  | .func f => .fn f [] []
  | .global g => match Env.glob g with
    | [] => .undef
    | l => .gp g 0 l
def iff_ (b : Bool) (want : Bool) : Bool := match want with | true => b | false => !b
def putDst (R : Regs) (d : Option Tmp) (r : RV) : Regs := match d with
  | some d => R.put d r
  | none => R
/-- A branch taken tells what the condition was. -/
def refine (R : Regs) (d : Nat) (b : Bool) : Regs := R.put d (.dat .bool b)
/-- One operation: the state behind it, the next free name, and what it touched. -/
def stepAct (cx : Cx) (Γ : Gam) (o : Oper) (st : St) (nx : Nat) : DT (St × Nat × FP) :=
  ((opAct cx Γ o (evalO st.regs)).run st.heap nx .none).bind fun (r, h, n, p) => .leaf (⟨putDst st.regs o.dst r, h⟩, n, p)
def stepOp (cx : Cx) (Γ : Gam) (ops : Array Oper) (o : Oper) (st : St) (nx : Nat) : DT (St × Nat × FP) :=
  match o.guard with
  | none => stepAct cx Γ o st nx
  | some (j, want) => match (ops[j]?).bind (·.dst) with
    | some d => match (st.regs.get d).bind asBool? with
      | some b => .br (iff_ b want) (stepAct cx Γ o ⟨refine st.regs d want, st.heap⟩ nx) (.leaf (⟨putDst (refine st.regs d (!want)) o.dst (.tup []), st.heap⟩, nx, .none))
      | none => match st.regs.get d with
        | some (.tup []) => .leaf (⟨putDst st.regs o.dst (.tup []), st.heap⟩, nx, .none)
        | _ => .fail
    | none => .fail
/-- The same places. -/
def sameP : List RV → List RV → Bool
  | [], [] => true
  | .ptr o t i p :: l, .ptr o' t' i' p' :: m => Nat.beq o o' && decide (t = t') && Nat.beq i i' && decide (p = p') && sameP l m
  | _, _ => false
/-- A place is told: what points to it has its data. -/
def tellRegs (o : Nat) (t : Ty) (x : t.den) : Regs → Regs
  | [] => []
  | (d, .ptr o' t' i p) :: l => (d, bif Nat.beq o o' && decide (t = t') && Nat.beq i 0 && p.isEmpty then .fptr t x else .ptr o' t' i p) :: tellRegs o t x l
  | (d, r) :: l => (d, r) :: tellRegs o t x l
/-- A call is deferred. -/
def deferAct (c : Call) (o : Oper) (st : St) : DT St :=
  match c.callee, c.args.toList, o.dst, o.guard, st.regs.get gd with
  | .value f, [], none, none, some (.dfr g a b t xs) => match evalO st.regs f with
    | .fn g' [] caps => match caps.drop a.length with
      | .ptr p u 0 [] :: b' => bif Nat.beq g g' && sameP (caps.take a.length) a && sameP b' b then
          match getOb st.heap p with
          | .box _ u' (.dat v x) => bif decide (u = t) && decide (u' = t) then .opt (v.cast? t x) fun x => .leaf ⟨(tellRegs p t x st.regs).put gd (.dfr g a b t (x :: xs)), putOb st.heap p .gone⟩ else .fail
          | _ => .fail
        else .fail
      | _ => .fail
    | _ => .fail
  | _, _, _, _, _ => .fail
def runOps (cx : Cx) (Γ : Gam) (ops : Array Oper) : List Oper → St → DT St
  | [], st => .leaf st
  | o :: l, st => (match o.op with
    | .defer c => deferAct c o st
    | _ => (stepOp cx Γ ops o st st.heap.length).bind fun (st', _, _) => .leaf st').bind fun st' => runOps cx Γ ops l st'

structure Note where
  dst : List Nat
  uses : List Nat
  fp : FP
def usesOf (ops : Array Oper) (o : Oper) : List Nat := o.looksAt ops
def disj : List Nat → List Nat → Bool
  | [], _ => true
  | a :: l, m => !has m a && disj l m
def Note.apart (a b : Note) : Bool :=
  disj a.dst b.uses && disj a.dst b.dst && disj a.uses b.dst &&
  disj a.fp.wr b.fp.rd && disj a.fp.wr b.fp.fz && disj a.fp.wr b.fp.wr && disj a.fp.rd b.fp.wr && disj a.fp.fz b.fp.wr
/-- All that must stand before an operation: the numbers' set as bits. -/
def befores (ops : List Oper) : List Nat := go ops []
where
  go : List Oper → List Nat → List Nat
    | [], acc => acc
    | o :: l, acc => go l (acc ++ [o.after.toList.foldl (fun m e => bif Region.binds .any e then m ||| (1 <<< e.on) ||| acc.getD e.on 0 else m) 0])
def pairsOk (bs : List Nat) : Nat → List Note → Bool
  | _, [] => true
  | i, n :: l => go i n (i + 1) l && pairsOk bs (i + 1) l
where
  go (i : Nat) (n : Note) : Nat → List Note → Bool
    | _, [] => true
    | j, m :: l => ((bs.getD j 0).testBit i || n.apart m) && go i n (j + 1) l
def slotsOf : Nat := 4
def fpOk (L : Nat) (p : FP) : Bool := p.rd.all (Nat.blt · L) && p.fz.all (Nat.blt · L) && p.wr.all (Nat.blt · L)
def edgesOk : Nat → List Oper → Bool
  | _, [] => true
  | i, o :: l => o.after.toList.all (fun e => !Region.binds .any e || Nat.blt e.on i) && edgesOk (i + 1) l
def runDraw (cx : Cx) (Γ : Gam) (ops : Array Oper) (base L : Nat) : Nat → List Oper → St → List Note → DT (St × List Note)
  | _, [], st, ns => .leaf (st, ns)
  | i, o :: l, st, ns => (stepOp cx Γ ops o st (base + slotsOf * i)).bind fun (st', n, fp) =>
    bif Nat.ble n (base + slotsOf * i + slotsOf) && fpOk L fp then runDraw cx Γ ops base L (i + 1) l st' (ns ++ [⟨o.dst.toList, usesOf ops o, fp⟩]) else .fail
def evRegion (cx : Cx) (Γ : Gam) (ops : Array Oper) (draw : Bool) (st : St) : DT St :=
  bif draw then
    (runDraw cx Γ ops st.heap.length (st.heap.length + slotsOf * ops.size) 0 ops.toList ⟨st.regs, st.heap ++ List.replicate (slotsOf * ops.size) .hole⟩ []).bind fun (st', ns) =>
      bif pairsOk (befores ops.toList) 0 ns && edgesOk 0 ops.toList then .leaf st' else .fail
  else runOps cx Γ ops ops.toList st

inductive Ex where
  | nrm | exit (id : Nat) | ret
def keepRegs (ks : List Nat) : Regs → Regs
  | [] => []
  | (d, r) :: l => bif has ks d then (d, r) :: keepRegs ks l else keepRegs ks l
structure Fx where
  cx : Cx
  Γ : Gam
  /-- what a loop (by its block) comes to -/
  Λ : Nat → St → DT (Ex × St)
  /-- what is kept behind a region: none: all -/
  keep : Nat → Option (List Nat)
  /-- how many objects of the caller's there are -/
  m : Nat
  /-- the numbers of ranges over functions, by their first regions -/
  rfs : Nat → Option Nat := fun _ => none
  /-- the functions that are ranged over -/
  its : List Nat := []
  /-- behind which region it is known what is deferred: the function; the registers of what it holds; the type of the data -/
  dfr : Nat → Option (FuncId × List Nat × List Nat × Ty) := fun _ => none
/-- A part is known by its first region. -/
def headId : Code → Option Nat
  | .region id _ _ => some id
  | .seq a _ => headId a
  | .scope c => headId c
  | .cond _ a _ => (headId a).map (· + 100000)
  | .block _ c => (headId c).map (· + 200000)
  | _ => none
def rid (a b : Code) : Nat := match headId a with
  | some i => i
  | none => (headId b).getD 0
def usedC : Code → List Nat
  | .region _ ops _ => ops.toList.flatMap (usesOf ops)
  | .seq a b => usedC a ++ usedC b
  | .cond c a b => (match c with | .tmp t => [t] | _ => []) ++ (usedC a ++ usedC b)
  | .block _ c => usedC c
  | .loop c => usedC c
  | .scope c => usedC c
  | _ => []
def exitsC : Code → List Nat
  | .seq a b => exitsC a ++ exitsC b
  | .cond _ a b => exitsC a ++ exitsC b
  | .block id c => (exitsC c).filter fun i => !Nat.beq i id
  | .loop c => exitsC c
  | .scope c => exitsC c
  | .exit i => [i]
  | _ => []
def pEx : Ex → Int
  | .nrm => 0 | .ret => 1 | .exit i => 2 + (i : Int)
def pickEx : List Ex → Int → St → DT (Ex × St)
  | [], _, _ => .fail
  | e :: l, p, st => .br (decide (p = pEx e)) (.leaf (e, st)) (pickEx l p st)
def capRegs (R : Regs) : List Nat → Regs
  | [] => []
  | d :: us => bif has us d || Nat.beq d gd then capRegs R us else match R.get d with
    | some r => (d, r) :: capRegs R us
    | none => capRegs R us
/-- What the rounds may look at: slices as data. -/
def capsAct : Regs → HM Regs
  | [] => .ret []
  | (d, r) :: l => (argDat r).bind fun r' => (capsAct l).bind fun l' => .ret ((d, r') :: l')
def rfRun (F : Fx) (Y : Nat) (f : FuncId) (caps : List RV) (R : Regs) : HM Int :=
  (capsAct R).bind fun R => .nw (.loop Y R 0) fun o => (callAct F.cx F.Γ f (.yld Y o :: caps)).bind fun _ => .rdw o fun b => match b with
    | .loop _ _ p => .wr o .gone (.ret p)
    | _ => .fail
def rfAct (F : Fx) (Y : Nat) (g : Operand) (us exs : List Nat) (st : St) : DT (Ex × St) :=
  match evalO st.regs g with
  | .fn f [] caps => bif has F.its f && !isRnd f && (st.regs.get gd).isNone then
      ((rfRun F Y f caps (capRegs st.regs us)).run st.heap st.heap.length .none).bind fun (p, h, _, _) => pickEx (.nrm :: .ret :: exs.map .exit) p ⟨st.regs, h⟩
    else .fail
  | _ => .fail
/-- Registers as they are. -/
def regsAt (R : Regs) : List Nat → Option (List RV)
  | [] => some []
  | d :: l => match R.get d with
    | some r => (regsAt R l).map (r :: ·)
    | none => none
def dfrAt (F : Fx) (id : Nat) (st : St) : DT St := match F.dfr id with
  | none => .leaf st
  | some (f, us, vs, t) => match st.regs.get gd, regsAt st.regs us, regsAt st.regs vs with
    | some (.tup []), some a, some b => .leaf ⟨st.regs.put gd (.dfr f a b t []), st.heap⟩
    | _, _, _ => .fail
def evC (F : Fx) : Code → Nat → St → DT (Ex × St)
  | .skip, _, st => .leaf (.nrm, st)
  | .region id ops draw, _, st => (evRegion F.cx F.Γ ops draw st).bind fun st => match F.keep id with
    | some ks => .leaf (.nrm, ⟨keepRegs ks st.regs, st.heap⟩)
    | none => (dfrAt F id st).bind fun st => .leaf (.nrm, st)
  | .seq a b, k, st => (evC F a k st).bind fun (e, st') => match e with
    | .nrm => evC F b k st'
    | e => .leaf (e, st')
  | .cond c a b, k, st => match asBool? (evalO st.regs c) with
    | some t => match c with
      | .tmp d => .br t (evC F a k ⟨refine st.regs d true, st.heap⟩) (evC F b k ⟨refine st.regs d false, st.heap⟩)
      | _ => .br t (evC F a k st) (evC F b k st)
    | none => .fail
  | .block id c, _, st => (evC F c id st).bind fun (e, st') => match e with
    | .exit i => bif Nat.beq i id then .leaf (.nrm, st') else .leaf (.exit i, st')
    | e => .leaf (e, st')
  | .loop _, k, st => F.Λ k st
  | .rangeFunc g _ a b, _, st => match F.rfs (rid a b) with
    | some Y => rfAct F Y g (usedC a ++ usedC b) (exitsC b) st
    | none => .fail
  | .exit id, _, st => .leaf (.exit id, st)
  | .ret, _, st => .leaf (.ret, st)
  | .scope c, k, st => evC F c k st
  | .label _, _, st => .leaf (.nrm, st)
  | _, _, _ => .fail

def argRegs : Nat → List RV → Regs
  | _, [] => []
  | i, r :: l => (i, r) :: argRegs (i + 1) l
def resOf (cx : Cx) (R : Regs) : Nat → List ResultVar → HM Regs
  | _, [] => .ret []
  | j, v :: l => (match v with
      | .tmp t => HM.ret (evalO R (.tmp t))
      | .cell a T => loadAct cx T (evalO R (.tmp a))).bind fun r => (resOf cx R (j + 1) l).bind fun l' => .ret ((j, r) :: l')
def upto : Nat → List Nat
  | 0 => []
  | n + 1 => upto n ++ [n]
inductive SK where
  | dat (t : Ty)
  | clip (t : Ty)
  | own (t : Ty) (o : Nat)
  | ptr (o : Nat) (t : Ty) (i : Nat) (p : List Nat)
  | agg (l : List SK)
  | fn (f : FuncId) (first caps : List SK)
  | iface (T : TypeId) (r : SK)
  | nilI | nilF | nilP | undef
  | nils (e : TypeId) (t : Ty)
  | yld (Y : Nat) (o : Nat)
  | dfr (f : FuncId) (a b : List SK) (t : Ty)
inductive SO where
  | arr (e : TypeId) (t : Ty) (fz : Bool)
  | box (T : TypeId) (t : Ty) (r : SK)
  | iter
  | gone
  | loop (Y : Nat) (R : List (Nat × SK))
structure Shape where
  regs : List (Nat × SK)
  objs : List SO
mutual
def SK.holes : SK → List Ty
  | .dat t => [t] | .clip t => [.list t] | .agg l => SK.holesL l | .fn _ a b => SK.holesL a ++ SK.holesL b | .iface _ r => r.holes | .dfr _ a b t => SK.holesL a ++ (SK.holesL b ++ [.list t]) | _ => []
def SK.holesL : List SK → List Ty
  | [] => [] | s :: l => s.holes ++ SK.holesL l
end
def SO.holes : SO → List Ty
  | .arr _ t _ => [.list t] | .box _ _ r => r.holes | .iter => [.str, .int .i64] | .gone => [] | .loop _ R => R.flatMap (fun p => p.2.holes) ++ [.int .i64]
def chain : List Ty → Ty
  | [] => .unit | t :: l => .pair t (chain l)
def Shape.ty (S : Shape) : Ty := chain (S.regs.flatMap (fun p => p.2.holes) ++ S.objs.flatMap SO.holes)
/-- Fill holes, in order. -/
def holeAs (t : Ty) : List DV → Option (t.den × List DV)
  | [] => none
  | d :: l => (d.t.cast? t d.x).map fun x => (x, l)
mutual
def SK.enc : SK → List DV → Option (RV × List DV)
  | .dat t, l => (holeAs t l).map fun p => (.dat t p.1, p.2)
  | .clip t, l => (holeAs (.list t) l).map fun p => (.clip t p.1, p.2)
  | .own t o, l => some (.own t o, l)
  | .ptr o t i p, l => some (.ptr o t i p, l)
  | .agg s, l => (SK.encL s l).map fun p => (.agg p.1, p.2)
  | .fn f a b, l => match SK.encL a l with
    | some (a', l) => (SK.encL b l).map fun p => (.fn f a' p.1, p.2)
    | none => none
  | .iface T r, l => (r.enc l).map fun p => (.iface T p.1, p.2)
  | .dfr f a b t, l => match SK.encL a l with
    | some (a', l) => match SK.encL b l with
      | some (b', l) => (holeAs (.list t) l).map fun p => (.dfr f a' b' t p.1, p.2)
      | none => none
    | none => none
  | .nilI, l => some (.nilI, l) | .nilF, l => some (.nilF, l) | .nilP, l => some (.nilP, l) | .undef, l => some (.undef, l) | .nils e t, l => some (.nils e t, l) | .yld Y o, l => some (.yld Y o, l)
def SK.encL : List SK → List DV → Option (List RV × List DV)
  | [], l => some ([], l)
  | s :: r, l => match s.enc l with
    | some (x, l) => (SK.encL r l).map fun p => (x :: p.1, p.2)
    | none => none
end
def encRegs : List (Nat × SK) → List DV → Option (Regs × List DV)
  | [], l => some ([], l)
  | (d, s) :: r, l => match s.enc l with
    | some (x, l) => (encRegs r l).map fun p => ((d, x) :: p.1, p.2)
    | none => none
def SO.enc : SO → List DV → Option (Ob × List DV)
  | .arr e t fz, l => (holeAs (.list t) l).map fun p => (.arr e t p.1 fz, p.2)
  | .box T t r, l => (r.enc l).map fun p => (.box T t p.1, p.2)
  | .iter, l => match holeAs .str l with
    | some (s, l) => (holeAs (.int .i64) l).map fun p => (.iter s p.1, p.2)
    | none => none
  | .gone, l => some (.gone, l)
  | .loop Y R, l => match encRegs R l with
    | some (R', l) => (holeAs (.int .i64) l).map fun p => (.loop Y R' p.1, p.2)
    | none => none
def encObs : List SO → List DV → Option (List Ob × List DV)
  | [], l => some ([], l)
  | s :: r, l => match s.enc l with
    | some (x, l) => (encObs r l).map fun p => (x :: p.1, p.2)
    | none => none
def Shape.enc (S : Shape) (s : S.ty.den) : St :=
  match encRegs S.regs (S.ty.parts s) with
  | some (R, l) => match encObs S.objs l with
    | some (H, _) => ⟨R, H⟩
    | none => ⟨[], []⟩
  | none => ⟨[], []⟩
-- take the data out of a state of the shape
mutual
def SK.dec : SK → RV → Option (List DV)
  | .dat t, .dat u x => bif decide (u = t) then some [⟨u, x⟩] else none
  | .clip t, .clip u x => bif decide (u = t) then some [⟨.list u, x⟩] else none
  | .own t o, .own u o' => bif decide (u = t) && Nat.beq o o' then some [] else none
  | .ptr o t i p, .ptr o' t' i' p' => bif Nat.beq o o' && decide (t = t') && Nat.beq i i' && decide (p = p') then some [] else none
  | .agg l, .agg r => SK.decL l r
  | .fn f a b, .fn g x y => bif Nat.beq f g then match SK.decL a x with
      | some l => (SK.decL b y).map fun m => l ++ m
      | none => none
    else none
  | .iface T r, .iface U s => bif Nat.beq T U then r.dec s else none
  | .dfr f a b t, .dfr g x y u xs => bif Nat.beq f g && decide (u = t) then match SK.decL a x with
      | some l => match SK.decL b y with
        | some m => some (l ++ (m ++ [⟨.list u, xs⟩]))
        | none => none
      | none => none
    else none
  | .nilI, .nilI => some [] | .nilF, .nilF => some [] | .nilP, .nilP => some [] | .undef, .undef => some []
  | .yld Y o, .yld Y' o' => bif Nat.beq Y Y' && Nat.beq o o' then some [] else none
  | .nils e t, .nils e' t' => bif Nat.beq e e' && decide (t = t') then some [] else none
  | _, _ => none
def SK.decL : List SK → List RV → Option (List DV)
  | [], [] => some []
  | s :: l, r :: m => match s.dec r with
    | some a => (SK.decL l m).map fun b => a ++ b
    | none => none
  | _, _ => none
end
def decRegs : List (Nat × SK) → Regs → Option (List DV)
  | [], [] => some []
  | (d, s) :: l, (e, r) :: m => bif Nat.beq d e then match s.dec r with
      | some a => (decRegs l m).map fun b => a ++ b
      | none => none
    else none
  | _, _ => none
def SO.dec : SO → Ob → Option (List DV)
  | .arr e t fz, .arr e' u xs fz' => bif Nat.beq e e' && decide (u = t) && decide (fz = fz') then some [⟨.list u, xs⟩] else none
  | .box T t r, .box T' t' s => bif Nat.beq T T' && decide (t = t') then r.dec s else none
  | .iter, .iter s pos => some [⟨.str, s⟩, ⟨.int .i64, pos⟩]
  | .gone, .gone => some []
  | .loop Y R, .loop Y' R' p => bif Nat.beq Y Y' then (decRegs R R').map fun l => l ++ [⟨.int .i64, p⟩] else none
  | _, _ => none
def decObs : List SO → List Ob → Option (List DV)
  | [], [] => some []
  | s :: l, b :: m => match s.dec b with
    | some a => (decObs l m).map fun c => a ++ c
    | none => none
  | _, _ => none
def chainOf : (ts : List Ty) → List DV → Option (chain ts).den
  | [], [] => some ()
  | t :: ts, d :: l => match d.t.cast? t d.x, chainOf ts l with
    | some x, some y => some (x, y)
    | _, _ => none
  | _, _ => none
def Shape.dec (S : Shape) (st : St) : Option S.ty.den :=
  match decRegs S.regs st.regs, decObs S.objs st.heap with
  | some a, some b => chainOf _ (a ++ b)
  | _, _ => none

mutual
def coerce : SK → RV → HM RV
  | .dat t, r => (toTy t r).bind fun x => .ret (.dat t x)
  | .own _ _, .nils e t => .nw (.arr e t [] false) fun o => .ret (.own t o)
  | .own _ _, .view t o 0 hi => .rdw o fun b => match b with
    | .arr e u xs false => .wr o .gone (.nw (.arr e u (xs.take hi) false) fun o => .ret (.own u o))
    | _ => .fail
  | .own _ _, .view t o lo hi => .rdw o fun b => match b with
    | .arr e u xs false => bif decide (u = t) then .wr o .gone (.nw (.arr e u ((xs.take hi).drop lo) false) fun o => .ret (.own u o)) else .fail
    | _ => .fail
  | .agg l, .agg m => (coerceL l m).bind fun m => .ret (.agg m)
  | _, r => .ret r
def coerceL : List SK → List RV → HM (List RV)
  | s :: l, r :: m => (coerce s r).bind fun r => (coerceL l m).bind fun m => .ret (r :: m)
  | _, m => .ret m
end
def coerceRegs : List (Nat × SK) → Regs → HM Regs
  | [], _ => .ret []
  | (d, s) :: l, R => match R.get d with
    | some r => (coerce s r).bind fun r => (coerceRegs l R).bind fun R' => .ret ((d, r) :: R')
    | none => .fail
/-- What boxes hold is brought into shape as well. -/
def coerceBoxes : List Nat → List SO → HM Unit
  | o :: l, .box _ _ s :: m => .rdw o fun b => match b with
    | .box _ _ r => (coerce s r).bind fun r => .rdw o fun b => match b with
      | .box T t _ => bif r.fits t then .wr o (.box T t r) (coerceBoxes l m) else .fail
      | _ => .fail
    | _ => .fail
  | o :: l, .arr _ _ true :: m => .rdw o fun b => match b with
    | .arr .. => .frz o (coerceBoxes l m)
    | _ => .fail
  | o :: l, .gone :: m => .rdw o fun b => match b with
    | .arr .. => .wr o .gone (coerceBoxes l m)
    | _ => coerceBoxes l m
  | _ :: l, _ :: m => coerceBoxes l m
  | _, _ => .ret ()
/-- What is to be gone by its name gets a new one. -/
def moveGone : List SO → Nat → HM (List (Nat × Nat))
  | [], _ => .ret []
  | .gone :: l, o => .rdw o fun b => match b with
    | .arr e t xs fz => .wr o .gone (.nw (.arr e t xs fz) fun n => (moveGone l (o + 1)).bind fun q => .ret ((o, n) :: q))
    | _ => moveGone l (o + 1)
  | _ :: l, o => moveGone l (o + 1)
def fwd : List (Nat × Nat) → Nat → Nat
  | [], i => i
  | (o, n) :: l, i => bif Nat.beq i o then n else fwd l i
def renBoxes (ρ : Nat → Nat) : List Nat → HM Unit
  | [] => .ret ()
  | o :: l => .rdw o fun b => match b with
    | .box T t r => .wr o (.box T t (r.ren ρ)) (renBoxes ρ l)
    | _ => renBoxes ρ l
/-- The first m objects keep their names. -/
def prep0 (S : Shape) (m : Nat) (R : Regs) : HM St :=
  (coerceRegs S.regs R).bind fun R => (gather 200 (upto m ++ R.ids) [] []).bind fun p => (coerceBoxes p.1 S.objs).bind fun _ =>
    (gather 200 (upto m ++ R.ids) [] []).bind fun q => .ret ⟨R.ren (idx q.1), q.2.map (Ob.ren (idx q.1))⟩
def prep (S : Shape) (m : Nat) (R : Regs) : HM St :=
  (moveGone (S.objs.take m) 0).bind fun q => match q with
    | [] => prep0 S m R
    | q => (gather 200 (upto m ++ R.ids) [] []).bind fun p => (renBoxes (fwd q) p.1).bind fun _ => prep0 S m (R.ren (fwd q))
def Shape.take (S : Shape) (m : Nat) (st : St) : DT S.ty.den :=
  ((prep S m st.regs).run st.heap st.heap.length .none).bind fun (st', _, _, _) => DT.ofOpt (S.dec st')

def Ex.is : Ex → Ex → Bool
  | .nrm, .nrm => true | .ret, .ret => true | .exit i, .exit j => Nat.beq i j | _, _ => false
/-- What a loop comes to: its state, and its ways out. -/
structure Lp where
  S : Shape
  x : Ex
  X : Shape
  y : Ex
  Y : Shape
abbrev Lp.Out (L : Lp) : Type := L.X.ty.den ⊕ L.Y.ty.den
def Lp.out (L : Lp) (m : Nat) (e : Ex) (st : St) : DT L.Out :=
  bif e.is L.x then (L.X.take m st).bind fun x => .leaf (.inl x) else bif e.is L.y then (L.Y.take m st).bind fun y => .leaf (.inr y) else .fail
def Lp.body (L : Lp) (F : Fx) (c : Code) (k : Nat) (s : L.S.ty.den) : DT (L.S.ty.den ⊕ L.Out) :=
  (evC F c k (L.S.enc s)).bind fun (e, st) => match e with
    | .nrm => (L.S.take F.m st).bind fun s => .leaf (.inl s)
    | e => (L.out F.m e st).bind fun o => .leaf (.inr o)
def Lp.go (L : Lp) (f : L.S.ty.den → Option L.Out) (m : Nat) (st : St) : DT (Ex × St) :=
  (L.S.take m st).bind fun s => .alt (f s) (fun x => .leaf (L.x, L.X.enc x)) (fun y => .leaf (L.y, L.Y.enc y))
def iterO {σ ρ : Type} (b : σ → Option (σ ⊕ ρ)) : Nat → σ → Option ρ
  | 0, _ => none
  | n + 1, s => match b s with
    | some (.inl t) => iterO b n t
    | some (.inr r) => some r
    | none => none
def huge : Nat := 1000000000000000000000000
def loopO {σ ρ : Type} (b : σ → Option (σ ⊕ ρ)) (s : σ) : Option ρ := iterO b huge s

structure Ent where
  f : FuncId
  S : Shape
  Z : Shape
  g : S.ty.den → Option Z.ty.den
def resRV : Regs → RV
  | [(_, r)] => r
  | l => .tup (l.map (·.2))
def evFn (F : Fx) (fn : Func) (S Z : Shape) (s : S.ty.den) : DT Z.ty.den :=
  (evC F (fn.body.getD .skip) 0 (S.enc s)).bind fun (e, st) => match e with
    | .exit _ => .fail
    | _ => ((resOf F.cx st.regs 0 fn.results.toList).run st.heap st.heap.length .none).bind fun (R, h, _, _) => Z.take F.m ⟨R, h⟩
def Ent.run (E : Ent) (s : E.S.ty.den) : DT (RV × List Ob) := .opt (E.g s) fun z => .leaf (resRV (E.Z.enc z).regs, (E.Z.enc z).heap)
def lookupG : List Ent → Gam
  | [], _, _, _ => .fail
  | E :: l, f, args, H => bif Nat.beq f E.f then match E.S.dec ⟨argRegs 0 args, H⟩ with
      | some s => E.run s
      | none => lookupG l f args H
    else lookupG l f args H
end
end Go.X
namespace Go.X
def loopsOf : Code → Nat → List (Nat × Code)
  | .seq a b, k => loopsOf a k ++ loopsOf b k
  | .cond _ a b, k => loopsOf a k ++ loopsOf b k
  | .block id c, _ => loopsOf c id
  | .loop c, k => (k, c) :: loopsOf c k
  | .scope c, k => loopsOf c k
  | _, _ => []
def bodyOf (fn : Func) : Code := fn.body.getD .skip
def loopAt (c : Code) (i : Nat) : Code := ((loopsOf c 0).getD i (0, .skip)).2
end Go.X
namespace Go.X
/-- The ranges over functions in code, with their first regions. -/
def rfsOf (n : Nat) : Code → List (Nat × RC)
  | .seq a b => rfsOf n a ++ rfsOf n b
  | .cond _ a b => rfsOf n a ++ rfsOf n b
  | .block _ c => rfsOf n c
  | .loop c => rfsOf n c
  | .scope c => rfsOf n c
  | .rangeFunc _ ps a b => [(rid a b, ⟨ps.toList, a, b, n⟩)]
  | _ => []
def rcAt (fn : Func) (i : Nat) : RC := ((rfsOf fn.ntmps (bodyOf fn)).getD i (0, ⟨[], .skip, .skip, 0⟩)).2
end Go.X
/- The engine, part C: what memory must hold for a value of a type; how values of registers stand for the machine's; steps. -/
set_option linter.unusedVariables false
set_option linter.unusedSimpArgs false
namespace Go.X
open Go.RowKit

abbrev Phi := Nat → Nat → Prop
def At (φ : Phi) (w : World) (b o : Nat) (cs : List Value) : Prop := ∀ i v, cs[i]? = some v → φ b (o + i) ∧ w.cell? ⟨b, o + i, none⟩ = some v
def Chunks {α : Type} (R : α → List Value → Prop) : List α → List Value → Prop
  | [], cs => cs = []
  | x :: xs, cs => ∃ c1 c2, cs = c1 ++ c2 ∧ R x c1 ∧ Chunks R xs c2
/-- The cells of a value of a type; what it leads to lies in cells of φ. -/
def CR (φ : Phi) (w : World) : (t : Ty) → t.den → List Value → Prop
  | .bool, x, cs => cs = [.bool x]
  | .int k, x, cs => cs = [.int k x]
  | .str, x, cs => cs = [.string ⟨⟨x⟩⟩]
  | .opq, _, _ => False
  | .unit, _, cs => cs = []
  | .list t, xs, cs => ∃ A n c, cs = [.slice A n c] ∧ xs.length = n ∧ n ≤ c ∧ (n = 0 ∨ ∃ b o ys, A = some ⟨b, o, none⟩ ∧ At φ w b o ys ∧ Chunks (CR φ w t) xs ys)
  | .pair a b, x, cs => ∃ c1 c2, cs = c1 ++ c2 ∧ CR φ w a x.1 c1 ∧ CR φ w b x.2 c2

theorem At.mono {φ φ' : Phi} {w w' : World} {b o : Nat} {cs : List Value} (hp : ∀ b k, φ b k → φ' b k) (hc : ∀ b k, φ b k → w'.cell? ⟨b, k, none⟩ = w.cell? ⟨b, k, none⟩) (h : At φ w b o cs) : At φ' w' b o cs :=
  fun i v hi => let ⟨h1, h2⟩ := h i v hi; ⟨hp _ _ h1, (hc _ _ h1).trans h2⟩
theorem Chunks.imp {α : Type} {R R' : α → List Value → Prop} (h : ∀ x c, R x c → R' x c) : ∀ (xs : List α) (cs : List Value), Chunks R xs cs → Chunks R' xs cs
  | [], _, e => e
  | _ :: xs, _, ⟨c1, c2, e, r, k⟩ => ⟨c1, c2, e, h _ _ r, Chunks.imp h xs c2 k⟩
theorem CR.mono {φ φ' : Phi} {w w' : World} (hp : ∀ b k, φ b k → φ' b k) (hc : ∀ b k, φ b k → w'.cell? ⟨b, k, none⟩ = w.cell? ⟨b, k, none⟩) :
    ∀ (t : Ty) (x : t.den) (cs : List Value), CR φ w t x cs → CR φ' w' t x cs
  | .bool, _, _, h => h | .int _, _, _, h => h | .str, _, _, h => h | .opq, _, _, h => h | .unit, _, _, h => h
  | .list t, xs, cs, ⟨A, n, c, e, hl, hn, h⟩ => ⟨A, n, c, e, hl, hn, h.imp id fun ⟨b, o, ys, e, ha, hk⟩ => ⟨b, o, ys, e, ha.mono hp hc, hk.imp fun x c => CR.mono hp hc t x c⟩⟩
  | .pair a b, x, cs, ⟨c1, c2, e, h1, h2⟩ => ⟨c1, c2, e, CR.mono hp hc a _ _ h1, CR.mono hp hc b _ _ h2⟩
theorem CR.len {φ : Phi} {w : World} : ∀ (t : Ty) (x : t.den) (cs : List Value), CR φ w t x cs → cs.length = t.size
  | .bool, _, _, h => by simp [CR] at h; simp [h, Ty.size]
  | .int _, _, _, h => by simp [CR] at h; simp [h, Ty.size]
  | .str, _, _, h => by simp [CR] at h; simp [h, Ty.size]
  | .opq, _, _, h => h.elim
  | .unit, _, _, h => by simp [CR] at h; simp [h, Ty.size]
  | .list t, xs, cs, ⟨A, n, c, e, _⟩ => by simp [e, Ty.size]
  | .pair a b, x, cs, ⟨c1, c2, e, h1, h2⟩ => by simp [e, Ty.size, CR.len a _ _ h1, CR.len b _ _ h2]
theorem CR.one {φ : Phi} {w : World} : ∀ (t : Ty) (x : t.den) (cs : List Value), CR φ w t x cs → ∀ v ∈ cs, v.oneCell' = true
  | .bool, _, _, h => by simp [CR] at h; simp [h]; rfl
  | .int _, _, _, h => by simp [CR] at h; simp [h]; rfl
  | .str, _, _, h => by simp [CR] at h; simp [h]; rfl
  | .opq, _, _, h => h.elim
  | .unit, _, _, h => by simp [CR] at h; simp [h]
  | .list t, xs, cs, ⟨A, n, c, e, _⟩ => by simp [e]; rfl
  | .pair a b, x, cs, ⟨c1, c2, e, h1, h2⟩ => by
    subst e
    intro v hv
    rcases List.mem_append.1 hv with hv | hv
    · exact CR.one a _ _ h1 v hv
    · exact CR.one b _ _ h2 v hv
section chunks
variable {α : Type} {R : α → List Value → Prop} {s : Nat}
theorem Chunks.len (hs : ∀ x c, R x c → c.length = s) : ∀ (xs : List α) (cs : List Value), Chunks R xs cs → cs.length = xs.length * s
  | [], _, e => by simp [Chunks] at e; simp [e]
  | _ :: xs, _, ⟨c1, c2, e, r, k⟩ => by simp [e, hs _ _ r, Chunks.len hs xs c2 k, Nat.add_mul, Nat.add_comm]
theorem Chunks.get (hs : ∀ x c, R x c → c.length = s) : ∀ (xs : List α) (cs : List Value), Chunks R xs cs → ∀ i x, xs[i]? = some x → R x ((cs.drop (i * s)).take s)
  | [], _, _, i, x, hx => by simp at hx
  | y :: xs, _, ⟨c1, c2, e, r, k⟩, i, x, hx => by
    subst e
    cases i with
    | zero =>
      simp at hx
      subst hx
      have := hs _ _ r
      subst this
      simpa using r
    | succ i =>
      have hx' : xs[i]? = some x := by simpa using hx
      have := Chunks.get hs xs c2 k i x hx'
      rw [show (i + 1) * s = c1.length + i * s by rw [hs _ _ r, Nat.add_mul]; omega, ← List.drop_drop, List.drop_left]
      exact this
theorem Chunks.append : ∀ (xs ys : List α) (cs ds : List Value), Chunks R xs cs → Chunks R ys ds → Chunks R (xs ++ ys) (cs ++ ds)
  | [], _, _, _, e, h => by simp [Chunks] at e; subst e; simpa using h
  | _ :: xs, ys, _, ds, ⟨c1, c2, e, r, k⟩, h => ⟨c1, c2 ++ ds, by simp [e], r, Chunks.append xs ys c2 ds k h⟩
theorem Chunks.drop (hs : ∀ x c, R x c → c.length = s) : ∀ (i : Nat) (xs : List α) (cs : List Value), Chunks R xs cs → Chunks R (xs.drop i) (cs.drop (i * s))
  | 0, xs, cs, h => by simpa using h
  | i + 1, [], cs, h => by simp [Chunks] at h ⊢; simp [h]
  | i + 1, _ :: xs, _, ⟨c1, c2, e, r, k⟩ => by
    subst e
    have e1 : (c1 ++ c2).drop ((i + 1) * s) = c2.drop (i * s) := by
      rw [show (i + 1) * s = c1.length + i * s by rw [hs _ _ r, Nat.add_mul]; omega, ← List.drop_drop, List.drop_left]
    rw [e1]
    exact Chunks.drop hs i xs c2 k
theorem Chunks.take (hs : ∀ x c, R x c → c.length = s) : ∀ (i : Nat) (xs : List α) (cs : List Value), Chunks R xs cs → Chunks R (xs.take i) (cs.take (i * s))
  | 0, xs, cs, h => by simp [Chunks]
  | i + 1, [], cs, h => by simp [Chunks] at h ⊢; simp [h]
  | i + 1, _ :: xs, _, ⟨c1, c2, e, r, k⟩ => by
    subst e
    refine ⟨c1, c2.take (i * s), ?_, r, Chunks.take hs i xs c2 k⟩
    rw [show (i + 1) * s = c1.length + i * s by rw [hs _ _ r, Nat.add_mul]; omega, List.take_length_add_append]
theorem Chunks.set (hs : ∀ x c, R x c → c.length = s) : ∀ (xs : List α) (cs : List Value), Chunks R xs cs → ∀ (i : Nat) (x : α) (c : List Value), i < xs.length → R x c → Chunks R (xs.set i x) (cs.take (i * s) ++ c ++ cs.drop (i * s + s))
  | [], _, _, i, x, c, hi, _ => by simp at hi
  | y :: xs, _, ⟨c1, c2, e, r, k⟩, i, x, c, hi, hr => by
    subst e
    cases i with
    | zero =>
      refine ⟨c, c2, ?_, hr, k⟩
      have := hs _ _ r
      subst this
      simp
    | succ i =>
      have ih := Chunks.set hs xs c2 k i x c (by simpa using hi) hr
      refine ⟨c1, _, ?_, r, ih⟩
      have e1 : (i + 1) * s = c1.length + i * s := by rw [hs _ _ r, Nat.add_mul]; omega
      rw [e1, List.take_length_add_append, show c1.length + i * s + s = c1.length + (i * s + s) by omega, ← List.drop_drop, List.drop_left]
      simp
theorem Chunks.replicate {x : α} {c : List Value} (hr : R x c) : ∀ n, Chunks R (List.replicate n x) ((List.replicate n c).flatten)
  | 0 => by simp [Chunks]
  | n + 1 => ⟨c, (List.replicate n c).flatten, by simp [List.replicate_succ], hr, Chunks.replicate hr n⟩
end chunks

def isAggV : Value → Bool
  | .agg _ => true | _ => false
/-- The machine's value of cells, at a type. -/
def VR (φ : Phi) (w : World) (t : Ty) (x : t.den) (v : Value) : Prop := CR φ w t x v.cells.toList ∧ isAggV v = t.isAgg
theorem cells_plain {v : Value} (h : isAggV v = false) : v.cells = #[v] := by cases v <;> first | rfl | (simp [isAggV] at h)
theorem agg_of {v : Value} (h : isAggV v = true) : ∃ cs, v = .agg cs := by cases v <;> first | exact ⟨_, rfl⟩ | (simp [isAggV] at h)
theorem VR.int {φ : Phi} {w : World} {k : IntKind} {x : Int} {v : Value} : VR φ w (.int k) x v ↔ v = .int k x := by
  constructor
  · rintro ⟨h1, h2⟩
    rw [cells_plain h2] at h1
    simpa [CR] using h1
  · rintro rfl; exact ⟨rfl, rfl⟩
theorem VR.bool {φ : Phi} {w : World} {x : Bool} {v : Value} : VR φ w .bool x v ↔ v = .bool x := by
  constructor
  · rintro ⟨h1, h2⟩
    rw [cells_plain h2] at h1
    simpa [CR] using h1
  · rintro rfl; exact ⟨rfl, rfl⟩
theorem VR.str {φ : Phi} {w : World} {x : List UInt8} {v : Value} : VR φ w .str x v ↔ v = .string ⟨⟨x⟩⟩ := by
  constructor
  · rintro ⟨h1, h2⟩
    rw [cells_plain h2] at h1
    simpa [CR] using h1
  · rintro rfl; exact ⟨rfl, rfl⟩
theorem VR.list {φ : Phi} {w : World} {t : Ty} {xs : List t.den} {v : Value} (h : VR φ w (.list t) xs v) :
    ∃ A n c, v = .slice A n c ∧ xs.length = n ∧ n ≤ c ∧ (n = 0 ∨ ∃ b o ys, A = some ⟨b, o, none⟩ ∧ At φ w b o ys ∧ Chunks (CR φ w t) xs ys) := by
  obtain ⟨h1, h2⟩ := h
  rw [cells_plain h2] at h1
  obtain ⟨A, n, c, e, h⟩ := h1
  exact ⟨A, n, c, by simpa using e, h⟩
/-- A function that lies in a variable. -/
def fval : Option Nat → Value
  | some f => .func (.func f) #[] #[] | none => .nilFunc
mutual
def RV.rel (φ : Phi) (ι : Nat → Value) (w : World) : RV → Value → Prop
  | .undef, _ => True
  | .dat t x, v => VR φ w t x v
  | .clip t xs, v => ∃ A n, v = .slice A n n ∧ CR φ w (.list t) xs [v]
  | .nilv, v => v = .slice none 0 0
  | .nils _ _, v => v = .slice none 0 0
  | .own _ o, v => v = ι o ∧ ∃ A n c, v = .slice A n c
  | .view t o lo hi, v => ∃ A n c A', ι o = .slice A n c ∧ lo ≤ hi ∧ hi ≤ n ∧ n ≤ c ∧ v = .slice A' (hi - lo) (c - lo) ∧ (c ≠ lo → A' = A.map (·.add (lo * t.size))) ∧ (c ≠ 0 → ∃ b k, A = some ⟨b, k, none⟩)
  | .ptr o t i p, v => ∃ b k, ((∃ n c, ι o = .slice (some ⟨b, k, none⟩) n c ∧ i < n) ∨ (ι o = .pointer (some ⟨b, 0, none⟩) ∧ i = 0 ∧ k = 0)) ∧ v = .pointer (some ⟨b, k + i * t.size + t.offAt p, none⟩) ∧ (t.at_ p).isSome
  | .fptr t x, v => ∃ b o cs, v = .pointer (some ⟨b, o, none⟩) ∧ At φ w b o cs ∧ CR φ w t x cs
  | .agg l, v => ∃ cs, v = .agg cs ∧ RV.relL φ ι w l cs.toList
  | .tup l, v => ∃ vs, v = .tuple vs ∧ RV.relT φ ι w l vs.toList
  | .fn f a b, v => ∃ x y, v = .func (.func f) x y ∧ RV.relT φ ι w a x.toList ∧ RV.relT φ ι w b y.toList
  | .iface T r, v => ∃ u, v = .iface T u ∧ r.rel φ ι w u
  | .nilI, v => v = .nilIface
  | .nilF, v => v = .nilFunc
  | .nilP, v => v = .pointer none
  | .lim t xs c, v => ∃ A n, v = .slice A n c ∧ CR φ w (.list t) xs [v]
  | .atl n, v => ∃ c : Nat, v = .int .i64 (c : Int) ∧ n ≤ c
  | .yld _ o, v => v = ι o ∧ ∃ l, v = .func (.yield l) #[] #[]
  | .gp b off l, v => v = .pointer (some ⟨b, off, none⟩) ∧ At φ w b off (l.map fval)
  | .dfr f a b t xs, v => ∃ vs : List Value, v = .tuple vs.toArray ∧ vs.length = xs.length ∧ ∀ (i : Nat) (x : t.den) (u : Value), xs[i]? = some x → vs[i]? = some u → ∃ c1 cv c2, u = .func (.func f) #[] (c1 ++ cv :: c2).toArray ∧ RV.relT φ ι w a c1 ∧ (∃ bb o cs, cv = .pointer (some ⟨bb, o, none⟩) ∧ At φ w bb o cs ∧ CR φ w t x cs) ∧ RV.relT φ ι w b c2
/-- The parts of a struct, by their cells. -/
def RV.relL (φ : Phi) (ι : Nat → Value) (w : World) : List RV → List Value → Prop
  | [], cs => cs = []
  | r :: l, cs => ∃ v c2, cs = v.cells.toList ++ c2 ∧ r.rel φ ι w v ∧ RV.relL φ ι w l c2
def RV.relT (φ : Phi) (ι : Nat → Value) (w : World) : List RV → List Value → Prop
  | [], vs => vs = []
  | r :: l, vs => ∃ v m, vs = v :: m ∧ r.rel φ ι w v ∧ RV.relT φ ι w l m
end

def blk : Value → Option Nat
  | .slice (some a) _ c => if c = 0 then none else some a.block
  | .pointer (some a) => some a.block
  | .func (.yield l) _ _ => some l
  | _ => none
/-- Where a slice begins within its block. -/
def bof : Value → Nat
  | .slice (some a) _ _ => a.off
  | _ => 0
def Ob.owns : Ob → Bool
  | .arr .. => true | .box .. => true | .iter .. => true | .loop .. => true | _ => false
def Ob.live : Ob → Bool
  | .hole => false | _ => true
def frOk (fr : Nat × Nat) (n : Nat) : Prop := ∀ k, k < n → ¬ (fr.1 ≤ k ∧ k < fr.2)
/-- The same of an array's cells; but for bytes, there is no mark behind the last one. -/
structure frA (t : Ty) (fr : Nat × Nat) (n : Nat) : Prop where
  ok : frOk fr n
  last : t = .int .u8 ∨ ¬ (fr.1 ≤ n ∧ n < fr.2)
instance {t : Ty} {fr : Nat × Nat} {n : Nat} : CoeFun (frA t fr n) fun _ => ∀ k, k < n → ¬ (fr.1 ≤ k ∧ k < fr.2) := ⟨frA.ok⟩
/-- The cells behind the elements hold elements, too (but for bytes). -/
structure Cells (φ : Phi) (w : World) (t : Ty) (n : Nat) (cur : Array Value) : Prop where
  one : ∀ v ∈ cur.toList, v.oneCell' = true
  rest : t = .int .u8 ∨ ∃ zs : List t.den, Chunks (CR φ w t) zs (cur.toList.drop (n * t.size))
instance {φ : Phi} {w : World} {t : Ty} {n : Nat} {cur : Array Value} : CoeFun (Cells φ w t n cur) fun _ => ∀ v, v ∈ cur.toList → v.oneCell' = true := ⟨Cells.one⟩
theorem Cells.mono {φ φ' : Phi} {w w' : World} {t : Ty} {n : Nat} {cur : Array Value} (hp : ∀ b k, φ b k → φ' b k) (hc : ∀ b k, φ b k → w'.cell? ⟨b, k, none⟩ = w.cell? ⟨b, k, none⟩) (h : Cells φ w t n cur) : Cells φ' w' t n cur :=
  ⟨h.one, h.rest.imp id fun ⟨zs, hz⟩ => ⟨zs, hz.imp fun x c => CR.mono hp hc t x c⟩⟩
theorem Cells.all {φ : Phi} {w : World} {t : Ty} {n : Nat} {cur : Array Value} {xs : List t.den} (h : Cells φ w t n cur) (hk : Chunks (CR φ w t) xs (cur.toList.take (n * t.size))) : t = .int .u8 ∨ ∃ zs : List t.den, Chunks (CR φ w t) (xs ++ zs) cur.toList :=
  h.rest.imp id fun ⟨zs, hz⟩ => ⟨zs, by have := Chunks.append _ _ _ _ hk hz; rwa [List.take_append_drop] at this⟩
theorem Cells.at_ {φ : Phi} {w : World} {t : Ty} {n : Nat} {cur : Array Value} {xs : List t.den} (h : Cells φ w t n cur) (hk : Chunks (CR φ w t) xs (cur.toList.take (n * t.size))) (j : Nat) : t = .int .u8 ∨ ∃ zs : List t.den, Chunks (CR φ w t) zs (cur.toList.drop (j * t.size)) :=
  (h.all hk).imp id fun ⟨zs, hz⟩ => ⟨_, hz.drop (fun x c => CR.len t x c) j⟩
theorem splice_drop {α : Type} {l news : List α} {a d : Nat} (ha : a ≤ l.length) (hd : a + news.length ≤ d) : (l.take a ++ news ++ l.drop (a + news.length)).drop d = l.drop d := by
  rw [List.drop_append, List.drop_of_length_le (by simp; omega), List.nil_append, List.drop_drop]
  congr 1
  simp
  omega
def exC : Ex → Code
  | .nrm => .skip | .ret => .ret | .exit i => .exit i
/-- How far a range over a function has come. -/
def LoopSt (rec : Loop) (p : Int) : Prop :=
  (p = 0 ∧ rec.state = .ready ∧ rec.pending = none) ∨ (p = -1 ∧ rec.state = .busy) ∨ ∃ e : Ex, p = pEx e ∧ e ≠ .nrm ∧ rec.state = .done ∧ rec.pending = some (exC e)
/-- The record of a range over a function. -/
structure LoopR [Env] (φ : Phi) (ι : Nat → Value) (w : World) (l : Nat) (rec : Loop) (c : RC) (Y : Nat) (R : Regs) (p : Int) : Prop where
  code : Env.code Y = some c
  heap : w.heap[l]? = some (.loop rec)
  params : rec.params.toList = c.params
  assign : rec.assign = c.assign
  body : rec.body = c.body
  nt : rec.tmps.size = c.nt
  st : LoopSt rec p
  regs : ∀ q ∈ R, q.2.rel φ ι w (rec.tmps.getD q.1 undef)
  phi : ∀ k, ¬ φ l k
section
variable [Env]
def ORel (φ : Phi) (ι : Nat → Value) (w : World) (o : Nat) : Ob → Prop
  | .hole => True
  | .gone => True
  | .arr e t xs fz => ∃ A n c, ι o = .slice A n c ∧ xs.length = n ∧ n ≤ c ∧ c ≤ maxLen ∧ (c = 0 ∨
      ∃ b pre cur fr, A = some ⟨b, pre.size, none⟩ ∧ w.heap[b]? = some (.cells (pre ++ cur) e fr) ∧ cur.size = c * t.size ∧ frA t fr (pre.size + cur.size) ∧ (∀ v ∈ pre.toList, v.oneCell' = true) ∧ Cells φ w t n cur ∧
        Chunks (CR φ w t) xs (cur.toList.take (n * t.size)) ∧ (∀ k, φ b k → fz = true ∧ pre.size ≤ k ∧ k < pre.size + n * t.size) ∧ (fz = true → ∀ k, k < n * t.size → φ b (pre.size + k)))
  | .box T t r => ∃ b cur fr v, ι o = .pointer (some ⟨b, 0, none⟩) ∧ w.heap[b]? = some (.cells cur T fr) ∧ cur.size = t.size ∧ frOk fr cur.size ∧ (∀ v ∈ cur.toList, v.oneCell' = true) ∧
        r.rel φ ι w v ∧ v.cells = cur ∧ r.fits t = true ∧ (∀ k, ¬ φ b k)
  | .iter s pos => ∃ (b n : Nat), ι o = .pointer (some ⟨b, 0, none⟩) ∧ w.heap[b]? = some (.stringIter ⟨⟨s⟩⟩ n) ∧ pos = n ∧ (∀ k, ¬ φ b k)
  | .loop Y R p => ∃ (l : Nat) (rec : Loop) (c : RC), ι o = .func (.yield l) #[] #[] ∧ LoopR φ ι w l rec c Y R p
def Owned (ι : Nat → Value) (H : List Ob) (b : Nat) : Prop := ∃ o, (getOb H o).owns = true ∧ blk (ι o) = some b
structure HRel (φ : Phi) (ι : Nat → Value) (w : World) (H : List Ob) : Prop where
  obj : ∀ o, ORel φ ι w o (getOb H o)
  apart : ∀ o o' b, (getOb H o).owns = true → (getOb H o').owns = true → blk (ι o) = some b → blk (ι o') = some b → o = o'
  phi : ∀ b k, φ b k → ∃ v, w.cell? ⟨b, k, none⟩ = some v
  ids : ∀ o, ∀ i ∈ (getOb H o).ids, (getOb H i).live = true
  glob : ∀ g, At φ w g 0 ((Env.glob g).map fval)
theorem HRel.idsB {φ : Phi} {ι : Nat → Value} {w : World} {H : List Ob} (h : HRel φ ι w H) (o : Nat) (T : TypeId) (t : Ty) (r : RV) (hb : getOb H o = .box T t r) (i : Nat) (hi : i ∈ r.ids) : (getOb H i).live = true := h.ids o i (by rw [hb]; exact hi)
end
/-- From one place of a run to a later one. -/
structure Step (φ : Phi) (ι : Nat → Value) (w : World) (H : List Ob) (φ' : Phi) (ι' : Nat → Value) (w' : World) (H' : List Ob) : Prop where
  phi : ∀ b k, φ b k → φ' b k
  cells : ∀ b k, φ b k → w'.cell? ⟨b, k, none⟩ = w.cell? ⟨b, k, none⟩
  newphi : ∀ b k, φ' b k → φ b k ∨ w.heap.size ≤ b ∨ Owned ι H b
  size : w.heap.size ≤ w'.heap.size
  os : w'.os = w.os
  tape : w'.tape = w.tape
  output : w'.output = w.output
  blocks : ∀ b, b < w.heap.size → ¬ Owned ι H b → w'.heap[b]? = w.heap[b]?
  own : ∀ b, Owned ι' H' b → w.heap.size ≤ b ∨ Owned ι H b
/-- Names live on. -/
structure Keep (ι : Nat → Value) (H : List Ob) (ι' : Nat → Value) (H' : List Ob) : Prop where
  iota : ∀ o, (getOb H o).live = true → ι' o = ι o
  live : ∀ o, (getOb H o).live = true → (getOb H' o).live = true
theorem Keep.refl (ι : Nat → Value) (H : List Ob) : Keep ι H ι H := ⟨fun _ _ => rfl, fun _ h => h⟩
theorem Keep.trans {ι ι' ι'' : Nat → Value} {H H' H'' : List Ob} (h : Keep ι H ι' H') (k : Keep ι' H' ι'' H'') : Keep ι H ι'' H'' :=
  ⟨fun o ho => (k.iota o (h.live o ho)).trans (h.iota o ho), fun o ho => k.live o (h.live o ho)⟩
theorem Step.refl (φ : Phi) (ι : Nat → Value) (w : World) (H : List Ob) : Step φ ι w H φ ι w H :=
  ⟨fun _ _ h => h, fun _ _ _ => rfl, fun _ _ h => .inl h, Nat.le_refl _, rfl, rfl, rfl, fun _ _ _ => rfl, fun _ h => .inr h⟩
theorem Step.trans {φ : Phi} {ι : Nat → Value} {w : World} {H : List Ob} {φ' : Phi} {ι' : Nat → Value} {w' : World} {H' : List Ob} {φ'' : Phi} {ι'' : Nat → Value} {w'' : World} {H'' : List Ob}
    (h : Step φ ι w H φ' ι' w' H') (k : Step φ' ι' w' H' φ'' ι'' w'' H'') : Step φ ι w H φ'' ι'' w'' H'' where
  phi b i hb := k.phi b i (h.phi b i hb)
  cells b i hb := (k.cells b i (h.phi b i hb)).trans (h.cells b i hb)
  newphi b i hb := by
    rcases k.newphi b i hb with h1 | h1 | h1
    · exact h.newphi b i h1
    · exact .inr (.inl (Nat.le_trans h.size h1))
    · exact .inr (h.own b h1)
  size := Nat.le_trans h.size k.size
  os := k.os.trans h.os
  tape := k.tape.trans h.tape
  output := k.output.trans h.output
  blocks b hb ho := by
    have hn : ¬ Owned ι' H' b := fun hc => (h.own b hc).elim (fun h1 => by omega) ho
    rw [k.blocks b (Nat.lt_of_lt_of_le hb h.size) hn]
    exact h.blocks b hb ho
  own b hb := by
    rcases k.own b hb with h1 | h1
    · exact .inl (Nat.le_trans h.size h1)
    · exact h.own b h1

theorem VR.mono {φ φ' : Phi} {w w' : World} (hp : ∀ b k, φ b k → φ' b k) (hc : ∀ b k, φ b k → w'.cell? ⟨b, k, none⟩ = w.cell? ⟨b, k, none⟩) {t : Ty} {x : t.den} {v : Value} (h : VR φ w t x v) : VR φ' w' t x v :=
  ⟨CR.mono hp hc _ _ _ h.1, h.2⟩
mutual
theorem RV.rel_mono {φ φ' : Phi} {ι ι' : Nat → Value} {w w' : World} (hp : ∀ b k, φ b k → φ' b k) (hc : ∀ b k, φ b k → w'.cell? ⟨b, k, none⟩ = w.cell? ⟨b, k, none⟩) :
    ∀ (r : RV) (v : Value), (∀ i ∈ r.ids, ι' i = ι i) → r.rel φ ι w v → r.rel φ' ι' w' v
  | .undef, _, _, _ => trivial
  | .dat t x, v, _, h => VR.mono hp hc h
  | .clip t xs, v, _, ⟨A, n, e, h⟩ => ⟨A, n, e, CR.mono hp hc _ _ _ h⟩
  | .nilv, _, _, h => h
  | .nils _ _, _, _, h => h
  | .own t o, v, hi, h => by simp only [RV.rel] at h ⊢; rw [hi o (by simp [RV.ids])]; exact h
  | .view t o lo hi', v, hi, h => by simp only [RV.rel] at h ⊢; rw [hi o (by simp [RV.ids])]; exact h
  | .ptr o t i p, v, hi, h => by simp only [RV.rel] at h ⊢; rw [hi o (by simp [RV.ids])]; exact h
  | .fptr t x, v, _, ⟨b, o, cs, e, h1, h2⟩ => ⟨b, o, cs, e, h1.mono hp hc, CR.mono hp hc _ _ _ h2⟩
  | .agg l, v, hi, ⟨cs, e, h⟩ => ⟨cs, e, RV.relL_mono hp hc l _ (fun i h => hi i (by simpa [RV.ids] using h)) h⟩
  | .tup l, v, hi, ⟨cs, e, h⟩ => ⟨cs, e, RV.relT_mono hp hc l _ (fun i h => hi i (by simpa [RV.ids] using h)) h⟩
  | .fn f a b, v, hi, ⟨x, y, e, h1, h2⟩ => ⟨x, y, e, RV.relT_mono hp hc a _ (fun i h => hi i (by simp [RV.ids, h])) h1, RV.relT_mono hp hc b _ (fun i h => hi i (by simp [RV.ids, h])) h2⟩
  | .iface T r, v, hi, ⟨u, e, h⟩ => ⟨u, e, RV.rel_mono hp hc r u (fun i h => hi i (by simpa [RV.ids] using h)) h⟩
  | .nilI, _, _, h => h
  | .nilF, _, _, h => h
  | .nilP, _, _, h => h
  | .atl _, _, _, h => h
  | .lim t xs c, v, _, ⟨A, n, e, h⟩ => ⟨A, n, e, CR.mono hp hc _ _ _ h⟩
  | .yld Y o, v, hi, h => by simp only [RV.rel] at h ⊢; rw [hi o (by simp [RV.ids])]; exact h
  | .gp b off l, v, _, ⟨e, h⟩ => ⟨e, h.mono hp hc⟩
  | .dfr f a b t xs, v, hi, ⟨vs, e, hl, h⟩ => ⟨vs, e, hl, fun i x u hx hu =>
      let ⟨c1, cv, c2, e1, h1, ⟨bb, o, cs, e2, h2, h3⟩, h4⟩ := h i x u hx hu
      ⟨c1, cv, c2, e1, RV.relT_mono hp hc a _ (fun i h => hi i (by simp [RV.ids, h])) h1, ⟨bb, o, cs, e2, h2.mono hp hc, CR.mono hp hc _ _ _ h3⟩, RV.relT_mono hp hc b _ (fun i h => hi i (by simp [RV.ids, h])) h4⟩⟩
theorem RV.relL_mono {φ φ' : Phi} {ι ι' : Nat → Value} {w w' : World} (hp : ∀ b k, φ b k → φ' b k) (hc : ∀ b k, φ b k → w'.cell? ⟨b, k, none⟩ = w.cell? ⟨b, k, none⟩) :
    ∀ (l : List RV) (cs : List Value), (∀ i ∈ RV.idsL l, ι' i = ι i) → RV.relL φ ι w l cs → RV.relL φ' ι' w' l cs
  | [], _, _, h => h
  | r :: l, _, hi, ⟨v, c2, e, h1, h2⟩ => ⟨v, c2, e, RV.rel_mono hp hc r v (fun i h => hi i (by simp [RV.idsL, h])) h1, RV.relL_mono hp hc l c2 (fun i h => hi i (by simp [RV.idsL, h])) h2⟩
theorem RV.relT_mono {φ φ' : Phi} {ι ι' : Nat → Value} {w w' : World} (hp : ∀ b k, φ b k → φ' b k) (hc : ∀ b k, φ b k → w'.cell? ⟨b, k, none⟩ = w.cell? ⟨b, k, none⟩) :
    ∀ (l : List RV) (vs : List Value), (∀ i ∈ RV.idsL l, ι' i = ι i) → RV.relT φ ι w l vs → RV.relT φ' ι' w' l vs
  | [], _, _, h => h
  | r :: l, _, hi, ⟨v, c2, e, h1, h2⟩ => ⟨v, c2, e, RV.rel_mono hp hc r v (fun i h => hi i (by simp [RV.idsL, h])) h1, RV.relT_mono hp hc l c2 (fun i h => hi i (by simp [RV.idsL, h])) h2⟩
end
/-- A value behind a step. -/
theorem RV.rel_step {φ : Phi} {ι : Nat → Value} {w : World} {H : List Ob} {φ' : Phi} {ι' : Nat → Value} {w' : World} {H' : List Ob} {r : RV} {v : Value}
    (s : Step φ ι w H φ' ι' w' H') (k : Keep ι H ι' H') (hl : ∀ i ∈ r.ids, (getOb H i).live = true) (h : r.rel φ ι w v) : r.rel φ' ι' w' v :=
  RV.rel_mono s.phi s.cells r v (fun i hi => k.iota i (hl i hi)) h
end Go.X
/- The engine, part D: programs on the heap without decisions; freezing; a value as data. -/
set_option linter.unusedVariables false
set_option linter.unusedSimpArgs false
namespace Go.X
open Go.RowKit

theorem DT.val_bind {α β : Type} (x : DT α) (f : α → DT β) : (x.bind f).val = x.val.bind fun a => (f a).val := by
  induction x with
  | leaf a => rfl
  | fail => rfl
  | br b x y ihx ihy => simp only [DT.bind, DT.val, ihx, ihy]; cases b <;> rfl
  | opt o k ih => cases o with
    | none => rfl
    | some r => simp only [DT.bind, DT.val]; exact ih r
  | alt o k h ihk ihh => cases o with
    | none => rfl
    | some r => cases r with
      | inl r => simp only [DT.bind, DT.val]; exact ihk r
      | inr r => simp only [DT.bind, DT.val]; exact ihh r
theorem DT.val_bind_some {α β : Type} {x : DT α} {f : α → DT β} {b : β} (h : (x.bind f).val = some b) : ∃ a, x.val = some a ∧ (f a).val = some b := by
  rw [DT.val_bind] at h
  exact Option.bind_eq_some_iff.1 h
theorem DT.val_ofOpt {α : Type} (o : Option α) : (DT.ofOpt o).val = o := by cases o <;> rfl
namespace HM
variable {α β : Type}
def go : HM α → List Ob → Nat → Option (α × List Ob × Nat)
  | ret a, h, n => some (a, h, n)
  | fail, _, _ => none
  | br b x y, h, n => bif b then x.go h n else y.go h n
  | opt o k, h, n => match o with | some r => (k r).go h n | none => none
  | alt o k l, h, n => match o with | some (.inl r) => (k r).go h n | some (.inr r) => (l r).go h n | none => none
  | rdc o k, h, n => (k (getOb h o).mask).go h n
  | frz o k, h, n => k.go (putOb h o (getOb h o).freeze) n
  | rdw o k, h, n => (k (getOb h o)).go h n
  | wr o b k, h, n => k.go (putOb h o b) n
  | nw b k, h, n => (k n).go (putOb h n b) (n + 1)
  | nxt k, h, n => (k n).go h n
theorem go_run (x : HM α) : ∀ (h : List Ob) (n : Nat) (p : FP) (a : α) (h' : List Ob) (n' : Nat) (p' : FP), (x.run h n p).val = some (a, h', n', p') → x.go h n = some (a, h', n') := by
  induction x with
  | ret a => intro h n p a h' n' p' e; simp only [run, DT.val, Option.some.injEq, Prod.mk.injEq] at e; obtain ⟨rfl, rfl, rfl, _⟩ := e; rfl
  | fail => intro h n p a h' n' p' e; simp [run, DT.val] at e
  | br b x y ihx ihy =>
    intro h n p a h' n' p' e
    simp only [run, DT.val] at e
    cases b
    · exact ihy _ _ _ _ _ _ _ e
    · exact ihx _ _ _ _ _ _ _ e
  | opt o k ih =>
    intro h n p a h' n' p' e
    cases o with
    | none => simp [run, DT.val] at e
    | some r => exact ih r _ _ _ _ _ _ _ e
  | alt o k l ihk ihl =>
    intro h n p a h' n' p' e
    cases o with
    | none => simp [run, DT.val] at e
    | some r => cases r with
      | inl r => exact ihk r _ _ _ _ _ _ _ e
      | inr r => exact ihl r _ _ _ _ _ _ _ e
  | rdc o k ih => intro h n p a h' n' p' e; exact ih _ _ _ _ _ _ _ _ e
  | frz o k ih => intro h n p a h' n' p' e; exact ih _ _ _ _ _ _ _ e
  | rdw o k ih => intro h n p a h' n' p' e; exact ih _ _ _ _ _ _ _ _ e
  | wr o b k ih => intro h n p a h' n' p' e; exact ih _ _ _ _ _ _ _ e
  | nw b k ih => intro h n p a h' n' p' e; exact ih _ _ _ _ _ _ _ _ e
  | nxt k ih => intro h n p a h' n' p' e; exact ih _ _ _ _ _ _ _ _ e
theorem go_bind (x : HM α) (f : α → HM β) : ∀ (h : List Ob) (n : Nat), (x.bind f).go h n = (x.go h n).bind fun q => (f q.1).go q.2.1 q.2.2 := by
  induction x with
  | ret a => intro h n; rfl
  | fail => intro h n; rfl
  | br b x y ihx ihy => intro h n; simp only [bind, go, ihx, ihy]; cases b <;> rfl
  | opt o k ih => intro h n; cases o with
    | none => rfl
    | some r => exact ih r h n
  | alt o k l ihk ihl => intro h n; cases o with
    | none => rfl
    | some r => cases r with
      | inl r => exact ihk r h n
      | inr r => exact ihl r h n
  | rdc o k ih => intro h n; exact ih _ h n
  | frz o k ih => intro h n; exact ih _ n
  | rdw o k ih => intro h n; exact ih _ h n
  | wr o b k ih => intro h n; exact ih _ n
  | nw b k ih => intro h n; exact ih _ _ _
  | nxt k ih => intro h n; exact ih _ h n
theorem go_bind_some {x : HM α} {f : α → HM β} {h : List Ob} {n : Nat} {r : β × List Ob × Nat} (e : (x.bind f).go h n = some r) : ∃ a h1 n1, x.go h n = some (a, h1, n1) ∧ (f a).go h1 n1 = some r := by
  rw [go_bind] at e
  obtain ⟨q, hq, hr⟩ := Option.bind_eq_some_iff.1 e
  exact ⟨q.1, q.2.1, q.2.2, hq, hr⟩
theorem go_ofOpt (o : Option α) (h : List Ob) (n : Nat) : (ofOpt o).go h n = o.map fun a => (a, h, n) := by cases o <;> rfl
theorem go_ofDT (x : DT α) (h : List Ob) (n : Nat) : (ofDT x).go h n = x.val.map fun a => (a, h, n) := by
  induction x with
  | leaf a => rfl
  | fail => rfl
  | br b x y ihx ihy => simp only [ofDT, go, DT.val, ihx, ihy]; cases b <;> rfl
  | opt o k ih => cases o with
    | none => rfl
    | some r => exact ih r
  | alt o k h ihk ihh => cases o with
    | none => rfl
    | some r => cases r with
      | inl r => exact ihk r
      | inr r => exact ihh r
theorem go_chk {b : Bool} {x : HM α} {h : List Ob} {n : Nat} {r : α × List Ob × Nat} (e : (chk b x).go h n = some r) : b = true ∧ x.go h n = some r := by
  cases b
  · simp [chk, go] at e
  · exact ⟨rfl, e⟩
end HM

theorem getOb_put (H : List Ob) (o : Nat) (b : Ob) (i : Nat) (ho : o ≤ H.length) : getOb (putOb H o b) i = if i = o then b else getOb H i := by
  unfold getOb
  induction H generalizing o i with
  | nil =>
    have : o = 0 := by simpa using ho
    subst this
    cases i with
    | zero => rfl
    | succ i => simp [putOb]
  | cons a l ih =>
    cases o with
    | zero => cases i <;> simp [putOb]
    | succ o =>
      cases i with
      | zero => simp [putOb]
      | succ i =>
        have := ih o i (by simpa using ho)
        simpa [putOb] using this
theorem putOb_len (H : List Ob) (o : Nat) (b : Ob) (ho : o < H.length) : (putOb H o b).length = H.length := by
  induction H generalizing o with
  | nil => simp at ho
  | cons a l ih => cases o with
    | zero => rfl
    | succ o => simpa [putOb] using ih o (by simpa using ho)
theorem putOb_len' (H : List Ob) (b : Ob) : (putOb H H.length b).length = H.length + 1 := by
  induction H with
  | nil => rfl
  | cons a l ih => simpa [putOb] using ih
theorem lt_of_live {H : List Ob} {o : Nat} (h : (getOb H o).live = true) : o < H.length := by
  rcases Nat.lt_or_ge o H.length with h1 | h1
  · exact h1
  · simp [getOb, List.getD_eq_getElem?_getD, List.getElem?_eq_none h1, Ob.live] at h

theorem Regs.mem_ids {R : Regs} {q : Nat × RV} (h : q ∈ R) : ∀ i ∈ q.2.ids, i ∈ R.ids := by
  induction R with
  | nil => cases h
  | cons p l ih =>
    intro i hi
    simp only [Regs.ids, List.mem_append]
    rcases List.mem_cons.1 h with rfl | h
    · exact .inl hi
    · exact .inr (ih h i hi)
theorem Regs.ids_mem {R : Regs} {i : Nat} (h : i ∈ R.ids) : ∃ q ∈ R, i ∈ q.2.ids := by
  induction R with
  | nil => simp [Regs.ids] at h
  | cons p l ih =>
    simp only [Regs.ids, List.mem_append] at h
    rcases h with h | h
    · exact ⟨p, by simp, h⟩
    · obtain ⟨q, h1, h2⟩ := ih h
      exact ⟨q, by simp [h1], h2⟩
theorem ORel.keep [Env] {φ φ' : Phi} {ι ι' : Nat → Value} {w w' : World} {o : Nat} {ob : Ob} (hp : ∀ b k, φ b k → φ' b k) (hc : ∀ b k, φ b k → w'.cell? ⟨b, k, none⟩ = w.cell? ⟨b, k, none⟩)
    (hi : ob.live = true → ι' o = ι o) (hids : ∀ i ∈ ob.ids, ι' i = ι i) (hb : ∀ b, ob.owns = true → blk (ι o) = some b → w'.heap[b]? = w.heap[b]? ∧ ∀ k, φ' b k → φ b k) (h : ORel φ ι w o ob) : ORel φ' ι' w' o ob := by
  cases ob with
  | hole => trivial
  | gone => trivial
  | arr e t xs fz =>
    obtain ⟨A, n, c, e1, e2, e3, e4, h⟩ := h
    refine ⟨A, n, c, (hi rfl).trans e1, e2, e3, e4, ?_⟩
    rcases h with h | ⟨b, pre, cur, fr, rfl, h1, h2, h3, h0, h4, h5, h6, h7⟩
    · exact .inl h
    · by_cases hc0 : c = 0
      · exact .inl hc0
      · obtain ⟨hh, hph⟩ := hb b rfl (by rw [e1]; simp [blk, hc0])
        exact .inr ⟨b, pre, cur, fr, rfl, hh.trans h1, h2, h3, h0, h4.mono hp hc, h5.imp fun x c => CR.mono hp hc t x c, fun k hk => h6 k (hph k hk), fun hz k hk => hp _ _ (h7 hz k hk)⟩
  | box T t r =>
    obtain ⟨b, cur, fr, v, e1, h1, h2, h3, h4, h5, h6, h7, h8⟩ := h
    obtain ⟨hh, hph⟩ := hb b rfl (by rw [e1]; rfl)
    exact ⟨b, cur, fr, v, (hi rfl).trans e1, hh.trans h1, h2, h3, h4, RV.rel_mono hp hc r v hids h5, h6, h7, fun k hk => h8 k (hph k hk)⟩
  | iter s pos =>
    obtain ⟨b, n, e1, h1, h2, h3⟩ := h
    obtain ⟨hh, hph⟩ := hb b rfl (by rw [e1]; rfl)
    exact ⟨b, n, (hi rfl).trans e1, hh.trans h1, h2, fun k hk => h3 k (hph k hk)⟩
  | loop Y R p =>
    obtain ⟨l, rec, c, e1, h1⟩ := h
    obtain ⟨hh, hph⟩ := hb l rfl (by rw [e1]; rfl)
    exact ⟨l, rec, c, (hi rfl).trans e1, ⟨h1.code, hh.trans h1.heap, h1.params, h1.assign, h1.body, h1.nt, h1.st, fun q hq => RV.rel_mono hp hc q.2 _ (fun i hi => hids i (Regs.mem_ids hq i hi)) (h1.regs q hq), fun k hk => h1.phi k (hph k hk)⟩⟩
theorem ORel.blk_arr [Env] {φ : Phi} {ι : Nat → Value} {w : World} {o : Nat} {e : TypeId} {t : Ty} {xs : List t.den} {fz : Bool} (h : ORel φ ι w o (.arr e t xs fz)) {b : Nat} (hb : blk (ι o) = some b) :
    ∃ n c pre cur fr, ι o = .slice (some ⟨b, pre.size, none⟩) n c ∧ xs.length = n ∧ n ≤ c ∧ c ≤ maxLen ∧ c ≠ 0 ∧ w.heap[b]? = some (.cells (pre ++ cur) e fr) ∧ cur.size = c * t.size ∧ frA t fr (pre.size + cur.size) ∧ (∀ v ∈ pre.toList, v.oneCell' = true) ∧ Cells φ w t n cur ∧
        Chunks (CR φ w t) xs (cur.toList.take (n * t.size)) ∧ (∀ k, φ b k → fz = true ∧ pre.size ≤ k ∧ k < pre.size + n * t.size) ∧ (fz = true → ∀ k, k < n * t.size → φ b (pre.size + k)) := by
  obtain ⟨A, n, c, e1, e2, e3, e4, h⟩ := h
  rw [e1] at hb
  rcases h with h | ⟨b', pre, cur, fr, rfl, h⟩
  · subst h; cases A <;> simp [blk] at hb
  · by_cases hc0 : c = 0
    · subst hc0; simp [blk] at hb
    · have : b' = b := by simpa [blk, hc0] using hb
      subst this
      exact ⟨n, c, pre, cur, fr, e1, e2, e3, e4, hc0, h⟩
/-- What is live of names is live as before; no world has turned. -/
structure Ghost [Env] (φ : Phi) (ι : Nat → Value) (w : World) (H : List Ob) (φ' : Phi) (H' : List Ob) : Prop where
  rel : HRel φ' ι w H'
  step : Step φ ι w H φ' ι w H'
  live : ∀ o, (getOb H' o).live = (getOb H o).live
  len : H'.length = H.length
theorem Ghost.refl [Env] {φ : Phi} {ι : Nat → Value} {w : World} {H : List Ob} (h : HRel φ ι w H) : Ghost φ ι w H φ H := ⟨h, Step.refl _ _ _ _, fun _ => rfl, rfl⟩
theorem Ghost.keep [Env] {φ : Phi} {ι : Nat → Value} {w : World} {H : List Ob} {φ' : Phi} {H' : List Ob} (g : Ghost φ ι w H φ' H') : Keep ι H ι H' := ⟨fun _ _ => rfl, fun o h => (g.live o).trans h⟩
theorem Ghost.trans [Env] {φ : Phi} {ι : Nat → Value} {w : World} {H : List Ob} {φ' : Phi} {H' : List Ob} {φ'' : Phi} {H'' : List Ob} (g : Ghost φ ι w H φ' H') (k : Ghost φ' ι w H' φ'' H'') : Ghost φ ι w H φ'' H'' :=
  ⟨k.rel, g.step.trans k.step, fun o => (k.live o).trans (g.live o), k.len.trans g.len⟩
theorem freeze_live (b : Ob) : b.freeze.live = b.live := by cases b <;> rfl
theorem freeze_owns (b : Ob) : b.freeze.owns = b.owns := by cases b <;> rfl
/-- An array is frozen: its cells may be told from now on. -/
theorem freeze_ghost [Env] {φ : Phi} {ι : Nat → Value} {w : World} {H : List Ob} (h : HRel φ ι w H) (o : Nat) (ho : o < H.length) :
    ∃ φ', Ghost φ ι w H φ' (putOb H o (getOb H o).freeze) ∧ (∀ e t xs fz, getOb H o = .arr e t xs fz → ∀ b k, blk (ι o) = some b → k < xs.length * t.size → φ' b (bof (ι o) + k)) := by
  have hget : ∀ i, getOb (putOb H o (getOb H o).freeze) i = if i = o then (getOb H o).freeze else getOb H i := fun i => getOb_put H o _ i (Nat.le_of_lt ho)
  by_cases harr : ∃ e t xs fz, getOb H o = .arr e t xs fz
  · obtain ⟨e, t, xs, fz, ha⟩ := harr
    have hro := h.obj o
    rw [ha] at hro
    let φ' : Phi := fun b k => φ b k ∨ (blk (ι o) = some b ∧ bof (ι o) ≤ k ∧ k < bof (ι o) + xs.length * t.size)
    have hp : ∀ b k, φ b k → φ' b k := fun b k hb => .inl hb
    have howns : ∀ i, (getOb (putOb H o (getOb H o).freeze) i).owns = (getOb H i).owns := fun i => by
      rw [hget]; split
      · rename_i hi; subst hi; exact freeze_owns _
      · rfl
    have hlive : ∀ i, (getOb (putOb H o (getOb H o).freeze) i).live = (getOb H i).live := fun i => by
      rw [hget]; split
      · rename_i hi; subst hi; exact freeze_live _
      · rfl
    have hown : ∀ b, Owned ι (putOb H o (getOb H o).freeze) b ↔ Owned ι H b := fun b => by simp only [Owned, howns]
    refine ⟨φ', ⟨⟨?_, ?_, ?_, ?_, fun g => (h.glob g).mono hp (fun _ _ _ => rfl)⟩, ⟨hp, fun _ _ _ => rfl, ?_, Nat.le_refl _, rfl, rfl, rfl, fun _ _ _ => rfl, fun b hb => .inr ((hown b).1 hb)⟩, hlive, putOb_len H o _ ho⟩, ?_⟩
    · intro i
      rw [hget]
      split
      · rename_i hi
        subst hi
        rw [ha]
        obtain ⟨A, n, c, e1, e2, e3, e4, hh⟩ := hro
        refine ⟨A, n, c, e1, e2, e3, e4, ?_⟩
        rcases hh with hh | ⟨b, pre, cur, fr, rfl, h1, h2, h3, h0, h4, h5, h6, h7⟩
        · exact .inl hh
        · by_cases hc0 : c = 0
          · exact .inl hc0
          · have hblk : blk (ι i) = some b := by rw [e1]; simp [blk, hc0]
            have hbof : bof (ι i) = pre.size := by rw [e1]; rfl
            refine .inr ⟨b, pre, cur, fr, rfl, h1, h2, h3, h0, h4.mono hp (fun _ _ _ => rfl), h5.imp fun x c => CR.mono hp (fun _ _ _ => rfl) t x c, ?_, ?_⟩
            · rintro k (hk | ⟨hk1, hk2⟩)
              · exact ⟨rfl, (h6 k hk).2⟩
              · rw [hbof, e2] at hk2
                exact ⟨rfl, hk2⟩
            · exact fun _ k hk => .inr ⟨hblk, by rw [hbof, e2]; omega⟩
      · rename_i hi
        refine (h.obj i).keep hp (fun _ _ _ => rfl) (fun _ => rfl) (fun _ _ => rfl) fun b ho' hb => ⟨rfl, fun k hk => ?_⟩
        rcases hk with hk | ⟨hk, _⟩
        · exact hk
        · exact absurd (h.apart i o b ho' (by rw [ha]; rfl) hb hk) hi
    · intro i j b hi hj h1 h2
      rw [howns] at hi hj
      exact h.apart i j b hi hj h1 h2
    · rintro b k (hk | ⟨hk1, hk2⟩)
      · exact h.phi b k hk
      · obtain ⟨n, c, pre, cur, fr, e1, e2, e3, e4, hc0, h1, h2, _⟩ := hro.blk_arr hk1
        have hbof : bof (ι o) = pre.size := by rw [e1]; rfl
        have hmul : n * t.size ≤ c * t.size := Nat.mul_le_mul_right _ e3
        rw [hbof, e2] at hk2
        have hlt : k < (pre ++ cur).size := by rw [Array.size_append, h2]; omega
        exact ⟨(pre ++ cur)[k], by simp [World.cell?, h1, Array.getElem?_eq_getElem hlt]⟩
    · intro i j hj
      rw [hget] at hj
      rw [hlive]
      split at hj
      · rw [ha] at hj; simp [Ob.freeze, Ob.ids] at hj
      · exact h.ids i j hj
    · rintro b k (hk | ⟨hk1, _⟩)
      · exact .inl hk
      · exact .inr (.inr ⟨o, by rw [ha]; rfl, hk1⟩)
    · intro e' t' xs' fz' ha' b k hb hk
      rw [ha] at ha'
      cases ha'
      exact .inr ⟨hb, Nat.le_add_right _ _, Nat.add_lt_add_left hk _⟩
  · have hfz : (getOb H o).freeze = getOb H o := by
      cases hob : getOb H o with
      | arr e t xs fz => exact absurd ⟨e, t, xs, fz, hob⟩ harr
      | _ => rfl
    have hsame : ∀ i, getOb (putOb H o (getOb H o).freeze) i = getOb H i := fun i => by
      rw [hget, hfz]; split
      · rename_i hi; subst hi; rfl
      · rfl
    refine ⟨φ, ⟨⟨fun i => ?_, fun i j b hi hj => ?_, h.phi, fun i j hj => ?_, h.glob⟩, ⟨fun _ _ h => h, fun _ _ _ => rfl, fun _ _ h => .inl h, Nat.le_refl _, rfl, rfl, rfl, fun _ _ _ => rfl, fun b hb => .inr ?_⟩, fun i => by rw [hsame], putOb_len H o _ ho⟩, fun e t xs fz ha => absurd ⟨e, t, xs, fz, ha⟩ harr⟩
    · rw [hsame]; exact h.obj i
    · rw [hsame] at hi hj; exact h.apart i j b hi hj
    · rw [hsame] at hj ⊢; exact h.ids i j hj
    · obtain ⟨i, h1, h2⟩ := hb
      rw [hsame] at h1
      exact ⟨i, h1, h2⟩
end Go.X
/- The engine, part E: a value taken as data. -/
set_option linter.unusedVariables false
set_option linter.unusedSimpArgs false
namespace Go.X
open Go.RowKit

theorem addr_add (b o k : Nat) : (⟨b, o, none⟩ : Addr).add k = ⟨b, o + k, none⟩ := by unfold Addr.add; split <;> simp_all
theorem cast_some {t u : Ty} {x : t.den} {y : u.den} (h : t.cast? u x = some y) : ∃ e : t = u, y = e ▸ x := by
  unfold Ty.cast? at h
  split at h
  · rename_i e; exact ⟨e, by simpa using h.symm⟩
  · cases h
theorem mask_arr {b : Ob} {e : TypeId} {t : Ty} {xs : List t.den} {fz : Bool} (h : b.mask = .arr e t xs fz) : ∃ fz', b = .arr e t xs fz' ∧ fz = false := by
  cases b <;> simp [Ob.mask] at h
  obtain ⟨rfl, rfl, h3, h4⟩ := h
  obtain rfl := eq_of_heq h3
  exact ⟨_, rfl, h4⟩
theorem mask_box {b : Ob} {T : TypeId} {t : Ty} {r : RV} (h : b.mask = .box T t r) : b = .box T t r := by
  cases b <;> simp [Ob.mask] at h
  obtain ⟨rfl, rfl, rfl⟩ := h
  rfl
theorem cell_of_heap {w : World} {b k : Nat} {cur : Array Value} {e : TypeId} {fr : Nat × Nat} (h : w.heap[b]? = some (.cells cur e fr)) : w.cell? ⟨b, k, none⟩ = cur[k]? := by simp [World.cell?, h]
/-- A part of an array of the call's own, all of it told: it reads as data. -/
theorem arr_CR [Env] {φ : Phi} {ι : Nat → Value} {w : World} {o : Nat} {e : TypeId} {t : Ty} {xs : List t.den} {fz : Bool} (h : ORel φ ι w o (.arr e t xs fz))
    (hφ : ∀ b k, blk (ι o) = some b → k < xs.length * t.size → φ b (bof (ι o) + k)) {A A' : Option Addr} {n c lo hi : Nat} (hv : ι o = .slice A n c) (h1 : lo ≤ hi) (h2 : hi ≤ n) (hA : c ≠ lo → A' = A.map (·.add (lo * t.size))) :
    CR φ w (.list t) ((xs.take hi).drop lo) [.slice A' (hi - lo) (c - lo)] := by
  obtain ⟨A2, n', c', e1, e2, e3, e4, hh⟩ := h
  rw [hv] at e1
  injection e1 with e1 e1' e1''
  subst e1 e1' e1''
  refine ⟨_, _, _, rfl, by simp [e2]; omega, by omega, ?_⟩
  by_cases hz : hi - lo = 0
  · exact .inl hz
  · refine .inr ?_
    have hc : c ≠ lo := by omega
    rcases hh with hh | ⟨b, pre, cur, fr, rfl, g1, g2, g3, g0, g4, g5, g6, g7⟩
    · omega
    · have hblk : blk (ι o) = some b := by rw [hv]; simp [blk]; omega
      have hbof : bof (ι o) = pre.size := by rw [hv]; rfl
      have hle : hi * t.size ≤ n * t.size := Nat.mul_le_mul_right _ h2
      refine ⟨b, pre.size + lo * t.size, (cur.toList.take (hi * t.size)).drop (lo * t.size), by rw [hA hc]; simp [addr_add], ?_, ?_⟩
      · intro i v hi'
        rw [List.getElem?_drop, List.getElem?_take] at hi'
        split at hi'
        · rename_i hlt
          refine ⟨by rw [Nat.add_assoc, ← hbof]; exact hφ b _ hblk (by rw [e2]; omega), ?_⟩
          rw [cell_of_heap g1, Array.getElem?_append_right (by omega)]
          rw [show pre.size + lo * t.size + i - pre.size = lo * t.size + i by omega]
          simpa using hi'
        · cases hi'
      · have := (g5.take (fun x c => CR.len t x c) hi).drop (fun x c => CR.len t x c) lo
        rwa [List.take_take, Nat.min_eq_left hle] at this
mutual
theorem toDat_sound [Env] {ι : Nat → Value} {w : World} : ∀ (r : RV) (φ : Phi) (v : Value) (H : List Ob) (n : Nat) (d : DV) (H' : List Ob) (n' : Nat), (toDat r).go H n = some (d, H', n') → HRel φ ι w H → r.rel φ ι w v →
    (∀ i ∈ r.ids, (getOb H i).live = true) → n' = n ∧ ∃ φ', Ghost φ ι w H φ' H' ∧ VR φ' w d.t d.x v
  | .dat t x, φ, v, H, n, d, H', n', e, h, hr, hl => by
    simp only [toDat, HM.go, Option.some.injEq, Prod.mk.injEq] at e
    obtain ⟨rfl, rfl, rfl⟩ := e
    exact ⟨rfl, φ, Ghost.refl h, hr⟩
  | .clip t xs, φ, v, H, n, d, H', n', e, h, hr, hl => by
    simp only [toDat, HM.go, Option.some.injEq, Prod.mk.injEq] at e
    obtain ⟨rfl, rfl, rfl⟩ := e
    obtain ⟨A, m, rfl, hc⟩ := hr
    exact ⟨rfl, φ, Ghost.refl h, hc, rfl⟩
  | .lim t xs c, φ, v, H, n, d, H', n', e, h, hr, hl => by
    simp only [toDat, HM.go, Option.some.injEq, Prod.mk.injEq] at e
    obtain ⟨rfl, rfl, rfl⟩ := e
    obtain ⟨A, m, rfl, hc⟩ := hr
    exact ⟨rfl, φ, Ghost.refl h, hc, rfl⟩
  | .nils _ t, φ, v, H, n, d, H', n', e, h, hr, hl => by
    simp only [toDat, HM.go, Option.some.injEq, Prod.mk.injEq] at e
    obtain ⟨rfl, rfl, rfl⟩ := e
    simp only [RV.rel] at hr
    subst hr
    exact ⟨rfl, φ, Ghost.refl h, ⟨_, _, _, rfl, rfl, Nat.le_refl _, .inl rfl⟩, rfl⟩
  | .own t o, φ, v, H, n, d, H', n', e, h, hr, hl => by
    have ho := lt_of_live (hl o (by simp [RV.ids]))
    obtain ⟨φ', g, hφ⟩ := freeze_ghost h o ho
    simp only [toDat, HM.go] at e
    rw [getOb_put H o _ o (Nat.le_of_lt ho), if_pos rfl] at e
    split at e
    · rename_i e0 u xs fz hm
      obtain ⟨fz', hf, rfl⟩ := mask_arr hm
      split at e
      · rename_i ys hy
        obtain ⟨et, rfl⟩ := cast_some hy
        injection et with et
        subst et
        simp only [HM.go, Option.some.injEq, Prod.mk.injEq] at e
        obtain ⟨rfl, rfl, rfl⟩ := e
        obtain ⟨fz2, ha⟩ : ∃ fz2, getOb H o = .arr e0 u xs fz2 := by
          cases hob : getOb H o <;> rw [hob] at hf <;> simp [Ob.freeze] at hf
          obtain ⟨rfl, rfl, h3, h4⟩ := hf
          obtain rfl := eq_of_heq h3
          exact ⟨_, rfl⟩
        have ho' := g.rel.obj o
        rw [getOb_put H o _ o (Nat.le_of_lt ho), if_pos rfl, hf] at ho'
        obtain ⟨rfl, A, m, c, hv⟩ := hr
        have hc := arr_CR ho' (fun b k hb hk => hφ _ _ _ _ ha b k hb hk) (A' := A) hv (Nat.zero_le m) (Nat.le_refl m) (fun _ => by cases A <;> simp [Addr.add])
        obtain ⟨A', n'', c', e1, e2, _⟩ := ho'
        rw [hv] at e1
        injection e1 with e1 e1' e1''
        subst e1 e1' e1''
        refine ⟨rfl, φ', g, ?_, by rw [hv]; rfl⟩
        rw [hv]
        show CR φ' w (.list u) xs [.slice A m c]
        simpa [← e2] using hc
      · simp [HM.go] at e
    · simp [HM.go] at e
  | .view t o lo hi, φ, v, H, n, d, H', n', e, h, hr, hl => by
    have ho := lt_of_live (hl o (by simp [RV.ids]))
    obtain ⟨φ', g, hφ⟩ := freeze_ghost h o ho
    simp only [toDat, HM.go] at e
    rw [getOb_put H o _ o (Nat.le_of_lt ho), if_pos rfl] at e
    split at e
    · rename_i e0 u xs fz hm
      obtain ⟨fz', hf, rfl⟩ := mask_arr hm
      split at e
      · rename_i ys hy
        obtain ⟨et, rfl⟩ := cast_some hy
        injection et with et
        subst et
        simp only [HM.go, Option.some.injEq, Prod.mk.injEq] at e
        obtain ⟨rfl, rfl, rfl⟩ := e
        obtain ⟨fz2, ha⟩ : ∃ fz2, getOb H o = .arr e0 u xs fz2 := by
          cases hob : getOb H o <;> rw [hob] at hf <;> simp [Ob.freeze] at hf
          obtain ⟨rfl, rfl, h3, h4⟩ := hf
          obtain rfl := eq_of_heq h3
          exact ⟨_, rfl⟩
        have ho' := g.rel.obj o
        rw [getOb_put H o _ o (Nat.le_of_lt ho), if_pos rfl, hf] at ho'
        obtain ⟨A, m, c, A', hv, h1, h2, h3, rfl, hA, _⟩ := hr
        exact ⟨rfl, φ', g, arr_CR ho' (fun b k hb hk => hφ _ _ _ _ ha b k hb hk) hv h1 h2 hA, rfl⟩
      · simp [HM.go] at e
    · simp [HM.go] at e
  | .agg l, φ, v, H, n, d, H', n', e, h, hr, hl => by
    obtain ⟨cs, rfl, hr⟩ := hr
    obtain ⟨hn, φ', g, hc, ha⟩ := toDats_sound l φ cs.toList H n d H' n' e h hr (fun i hi => hl i (by simpa [RV.ids] using hi))
    exact ⟨hn, φ', g, hc, ha.symm⟩
  | .undef, _, _, _, _, _, _, _, e, _, _, _ => by simp [toDat, HM.go] at e
  | .nilv, _, _, _, _, _, _, _, e, _, _, _ => by simp [toDat, HM.go] at e
  | .ptr .., _, _, _, _, _, _, _, e, _, _, _ => by simp [toDat, HM.go] at e
  | .fptr .., _, _, _, _, _, _, _, e, _, _, _ => by simp [toDat, HM.go] at e
  | .tup _, _, _, _, _, _, _, _, e, _, _, _ => by simp [toDat, HM.go] at e
  | .fn .., _, _, _, _, _, _, _, e, _, _, _ => by simp [toDat, HM.go] at e
  | .iface .., _, _, _, _, _, _, _, e, _, _, _ => by simp [toDat, HM.go] at e
  | .nilI, _, _, _, _, _, _, _, e, _, _, _ => by simp [toDat, HM.go] at e
  | .nilF, _, _, _, _, _, _, _, e, _, _, _ => by simp [toDat, HM.go] at e
  | .nilP, _, _, _, _, _, _, _, e, _, _, _ => by simp [toDat, HM.go] at e
  | .atl _, _, _, _, _, _, _, _, e, _, _, _ => by simp [toDat, HM.go] at e
theorem toDats_sound [Env] {ι : Nat → Value} {w : World} : ∀ (l : List RV) (φ : Phi) (cs : List Value) (H : List Ob) (n : Nat) (d : DV) (H' : List Ob) (n' : Nat), (toDats l).go H n = some (d, H', n') → HRel φ ι w H → RV.relL φ ι w l cs →
    (∀ i ∈ RV.idsL l, (getOb H i).live = true) → n' = n ∧ ∃ φ', Ghost φ ι w H φ' H' ∧ CR φ' w d.t d.x cs ∧ d.t.isAgg = true
  | [], φ, cs, H, n, d, H', n', e, h, hr, hl => by
    simp only [toDats, HM.go, Option.some.injEq, Prod.mk.injEq] at e
    obtain ⟨rfl, rfl, rfl⟩ := e
    exact ⟨rfl, φ, Ghost.refl h, hr, rfl⟩
  | r :: l, φ, cs, H, n, d, H', n', e, h, hr, hl => by
    obtain ⟨v, c2, rfl, h1, h2⟩ := hr
    simp only [toDats] at e
    obtain ⟨d1, H1, n1, e1, e⟩ := HM.go_bind_some e
    obtain ⟨d2, H2, n2, e2, e⟩ := HM.go_bind_some e
    simp only [HM.go, Option.some.injEq, Prod.mk.injEq] at e
    obtain ⟨rfl, rfl, rfl⟩ := e
    obtain ⟨rfl, φ1, g1, hv⟩ := toDat_sound r φ v H n d1 H1 n1 e1 h h1 (fun i hi => hl i (by simp [RV.idsL, hi]))
    obtain ⟨rfl, φ2, g2, hc, _⟩ := toDats_sound l φ1 c2 H1 n1 d2 H2 n2 e2 g1.rel
      (RV.relL_mono g1.step.phi g1.step.cells l c2 (fun _ _ => rfl) h2) (fun i hi => by rw [g1.live]; exact hl i (by simp [RV.idsL, hi]))
    exact ⟨rfl, φ2, g1.trans g2, ⟨_, _, rfl, CR.mono g2.step.phi g2.step.cells _ _ _ hv.1, hc⟩, rfl⟩
end
theorem toTy_sound [Env] {ι : Nat → Value} {w : World} {t : Ty} {r : RV} {φ : Phi} {v : Value} {H : List Ob} {n : Nat} {x : t.den} {H' : List Ob} {n' : Nat} (e : (toTy t r).go H n = some (x, H', n')) (h : HRel φ ι w H) (hr : r.rel φ ι w v)
    (hl : ∀ i ∈ r.ids, (getOb H i).live = true) : n' = n ∧ ∃ φ', Ghost φ ι w H φ' H' ∧ VR φ' w t x v := by
  unfold toTy at e
  obtain ⟨d, H1, n1, e1, e⟩ := HM.go_bind_some e
  rw [HM.go_ofOpt] at e
  obtain ⟨y, hy, e⟩ := Option.map_eq_some_iff.1 e
  simp only [Prod.mk.injEq] at e
  obtain ⟨rfl, rfl, rfl⟩ := e
  obtain ⟨hn, φ', g, hv⟩ := toDat_sound r φ v H n d H1 n1 e1 h hr hl
  obtain ⟨d, x⟩ := d
  obtain ⟨et, rfl⟩ := cast_some hy
  simp only at et
  subst et
  exact ⟨hn, φ', g, hv⟩
end Go.X
/- The engine, part F: what is known of types; places inside values. -/
set_option linter.unusedVariables false
set_option linter.unusedSimpArgs false
namespace Go.X
open Go.RowKit

def elemOk (P : Program) (e : TypeId) (t : Ty) (bytes : Nat) : Prop :=
  ∃ ei z, P.info? e = some ei ∧ ei.size = t.size ∧ ei.bytes = bytes ∧ 0 < bytes ∧ ei.zero = some z ∧ 0 < t.size ∧ z.cells.toList.length = t.size ∧ ∀ φ w, CR φ w t t.zero z.cells.toList
def fieldOk (P : Program) (cx : Cx) (ty : Ty) (f : Nat) (U : TypeId) (off : Nat) : Prop :=
  off = ty.offs f ∧ ∃ j, cx.ti U = some j ∧ ty.nth f = some j.ty ∧ 0 < j.ty.size
def descOk (P : Program) (cx : Cx) (T : TypeId) (i : TI) : Prop := match i.ty with
  | .bool => P.underlying T = some .bool
  | .int k => P.underlying T = some (.int k)
  | .str => P.underlying T = some .string
  | .list t => P.underlying T = some (.slice i.elem) ∧ elemOk P i.elem t i.bytes ∧ ∃ u, cx.ti i.elem = some u ∧ u.ty = t
  | .opq => ∃ d, P.underlying T = some d ∧ ∀ (x : Nat) (e : TypeId) fs, d ≠ .array x e ∧ d ≠ .struct fs
  | ty => (i.arr = false ∧ ∃ fs, P.underlying T = some (.struct fs) ∧ fs.size = i.fields.length ∧ ∀ (f : Nat) U, i.fields[f]? = some U → ∃ fd, fs[f]? = some fd ∧ fd.type = U ∧ fieldOk P cx ty f U fd.offset) ∨
     (i.arr = true ∧ ∃ n e ei, P.underlying T = some (.array n e) ∧ i.fields.length = n ∧ P.info? e = some ei ∧ ∀ (f : Nat) U, i.fields[f]? = some U → U = e ∧ fieldOk P cx ty f U (f * ei.size))
/-- Go's '==' at a type is equality of data. -/
def eqRun (P : Program) (T : TypeId) (t : Ty) : Prop := ∀ (φ : Phi) (w : World) (x y : t.den) (vx vy : Value) (xo yo : Operand), VR φ w t x vx → VR φ w t y vy →
  (do eqGuard .eql T xo yo vx vy; binOp .eql T vx vy : Sem Value).run P w = .ok (.bool (t.eqb x y)) w ∧
  (do eqGuard .neq T xo yo vx vy; binOp .neq T vx vy : Sem Value).run P w = .ok (.bool (!(t.eqb x y))) w
/-- A method of a type's values is a function. -/
def methRun (P : Program) (T : TypeId) (nm : String) (f : Nat) : Prop := ∀ (v : Value) (w : World), (method (P.types.size + Made.depth) T v nm).run P w = .ok (f, v) w
structure TIok (P : Program) (cx : Cx) (T : TypeId) (i : TI) : Prop where
  info : ∃ info, P.info? T = some info ∧ info.size = i.ty.size ∧ ∀ r, cx.zeroRV 20 T = some r → ∃ z, info.zero = some z ∧ z.cells.size = i.ty.size ∧ isAggV z = i.ty.isAgg ∧ r.fits i.ty = true ∧ r.ids = [] ∧ ∀ φ ι w, r.rel φ ι w z
  desc : descOk P cx T i
  cmp : i.cmp = true → i.ty.cmp = true → i.ty.isAgg = true → eqRun P T i.ty
  iface : i.nil = true → ∃ ms, P.underlying T = some (.interface ms)
  meth : ∀ nm f, methAt i.meths nm = some f → methRun P T nm f
def TabOK (P : Program) (cx : Cx) : Prop := ∀ T i, cx.ti T = some i → TIok P cx T i

theorem isTy_of {cx : Cx} {T : TypeId} {t : Ty} (h : cx.isTy T t = true) : ∃ i, cx.ti T = some i ∧ i.ty = t := by
  unfold Cx.isTy at h
  split at h
  · rename_i i hi; exact ⟨i, hi, by simpa using h⟩
  · cases h
theorem isTyO_of {cx : Cx} {T : TypeId} {t : Option Ty} (h : cx.isTyO T t = true) : ∃ i, cx.ti T = some i ∧ t = some i.ty := by
  unfold Cx.isTyO at h
  split at h
  · rename_i t; obtain ⟨i, h1, h2⟩ := isTy_of h; exact ⟨i, h1, by rw [h2]⟩
  · cases h
section
variable {P : Program} {cx : Cx} {T : TypeId} {i : TI} {w : World}
theorem run_sizeOfX (tab : TabOK P cx) (h : cx.ti T = some i) : (sizeOf T).run P w = .ok i.ty.size w := by
  obtain ⟨info, h1, h2, _⟩ := (tab T i h).info
  simp [sizeOf, typeInfo, h1, h2]
theorem run_isAggX (tab : TabOK P cx) (h : cx.ti T = some i) : (isAgg T).run P w = .ok i.ty.isAgg w := by
  have hd := (tab T i h).desc
  unfold descOk at hd
  unfold isAgg
  split at hd
  · rename_i e; simp [run_underlying hd, e, Ty.isAgg]
  · rename_i e; simp [run_underlying hd, e, Ty.isAgg]
  · rename_i e; simp [run_underlying hd, e, Ty.isAgg]
  · rename_i e; simp [run_underlying hd.1, e, Ty.isAgg]
  · rename_i e
    obtain ⟨d, hd, hn⟩ := hd
    rw [e]
    cases d with
    | array x y => exact absurd rfl (hn x y #[]).1
    | struct fs => exact absurd rfl (hn 0 0 fs).2
    | _ => simp [run_underlying hd, Ty.isAgg]
  · rename_i ty h1 h2 h3 h4 h5
    have : i.ty.isAgg = true := by
      cases hty : i.ty with
      | bool => exact absurd hty h1
      | int k => exact absurd hty (h2 k)
      | str => exact absurd hty h3
      | list t => exact absurd hty (h4 t)
      | opq => exact absurd hty h5
      | unit => rfl
      | pair a b => rfl
    rw [this]
    rcases hd with ⟨_, fs, hd, _⟩ | ⟨_, n, e, ei, hd, _⟩ <;> simp [run_underlying hd]
end

theorem nth_offs {t u : Ty} {i : Nat} (h : t.nth i = some u) : t.offs i + u.size ≤ t.size := by
  induction t generalizing i with
  | pair a b iha ihb =>
    cases i with
    | zero => simp [Ty.nth] at h; subst h; simp [Ty.offs, Ty.size]
    | succ i => have := ihb (i := i) (by simpa [Ty.nth] using h); simp only [Ty.offs, Ty.size]; omega
  | _ => cases i <;> simp [Ty.nth] at h
theorem at_offs {t u : Ty} {p : List Nat} (h : t.at_ p = some u) : t.offAt p + u.size ≤ t.size := by
  induction p generalizing t with
  | nil => simp [Ty.at_] at h; subst h; simp [Ty.offAt]
  | cons i p ih =>
    simp only [Ty.at_] at h
    split at h
    · rename_i e he
      have h1 := nth_offs he
      have h2 := ih h
      simp only [Ty.offAt, he]
      omega
    · cases h
theorem proj_cells {φ : Phi} {w : World} {t : Ty} {x : t.den} {cs : List Value} {i : Nat} {d : DV} (h : CR φ w t x cs) (hp : t.proj x i = some d) : t.nth i = some d.t ∧ CR φ w d.t d.x ((cs.drop (t.offs i)).take d.t.size) := by
  induction t generalizing i cs with
  | pair a b iha ihb =>
    obtain ⟨c1, c2, rfl, h1, h2⟩ := h
    cases i with
    | zero =>
      simp only [Ty.proj, Option.some.injEq] at hp
      subst hp
      refine ⟨rfl, ?_⟩
      have := CR.len a _ _ h1
      simp only [Ty.offs, List.drop_zero]
      rw [← this, List.take_left]
      exact h1
    | succ i =>
      simp only [Ty.proj] at hp
      obtain ⟨g1, g2⟩ := ihb h2 hp
      refine ⟨g1, ?_⟩
      simp only [Ty.offs]
      rw [← CR.len a _ _ h1, ← List.drop_drop, List.drop_left]
      exact g2
  | _ => cases i <;> simp [Ty.proj] at hp
theorem at_cells {φ : Phi} {w : World} {p : List Nat} : ∀ {d e : DV} {cs : List Value}, CR φ w d.t d.x cs → d.at_ p = some e → d.t.at_ p = some e.t ∧ CR φ w e.t e.x ((cs.drop (d.t.offAt p)).take e.t.size) := by
  induction p with
  | nil =>
    intro d e cs h hp
    simp only [DV.at_, Option.some.injEq] at hp
    subst hp
    refine ⟨rfl, ?_⟩
    simp only [Ty.offAt, List.drop_zero]
    rw [← CR.len _ _ _ h, List.take_length]
    exact h
  | cons i p ih =>
    intro d e cs h hp
    simp only [DV.at_] at hp
    split at hp
    · rename_i f hf
      obtain ⟨g1, g2⟩ := proj_cells h hf
      obtain ⟨k1, k2⟩ := ih g2 hp
      refine ⟨by simp only [Ty.at_, g1, k1], ?_⟩
      have hle := at_offs k1
      simp only [Ty.offAt, g1]
      rw [List.drop_take, List.take_take, List.drop_drop, Nat.min_eq_left (by omega)] at k2
      exact k2
    · cases hp
mutual
theorem RV.rel_fits {φ : Phi} {ι : Nat → Value} {w : World} : ∀ (r : RV) (t : Ty) (v : Value), r.rel φ ι w v → r.fits t = true → v.cells.size = t.size ∧ isAggV v = t.isAgg
  | .dat u x, t, v, h, hf => by
    have e : u = t := by simpa [RV.fits] using hf
    subst e
    exact ⟨by rw [← CR.len _ _ _ h.1]; simp, h.2⟩
  | .nils _ u, t, v, h, hf => by
    have e : Ty.list u = t := by simpa [RV.fits] using hf
    subst e
    simp only [RV.rel] at h
    subst h
    exact ⟨rfl, rfl⟩
  | .own u o, t, v, h, hf => by
    have e : Ty.list u = t := by simpa [RV.fits] using hf
    subst e
    obtain ⟨_, A, n, c, rfl⟩ := h
    exact ⟨rfl, rfl⟩
  | .agg l, t, v, h, hf => by
    obtain ⟨cs, rfl, h⟩ := h
    obtain ⟨h1, h2⟩ := RV.relL_fits l t cs.toList h (by simpa [RV.fits] using hf)
    exact ⟨by simpa [Value.cells] using h1, by rw [h2]; rfl⟩
  | .ptr o u i p, t, v, h, hf => by
    have e : t = .opq := by simpa [RV.fits] using hf
    subst e
    obtain ⟨b, _, _, rfl, _⟩ := h
    exact ⟨rfl, rfl⟩
  | .fptr u x, t, v, h, hf => by
    have e : t = .opq := by simpa [RV.fits] using hf
    subst e
    obtain ⟨b, o, cs, rfl, _⟩ := h
    exact ⟨rfl, rfl⟩
  | .fn f a b, t, v, h, hf => by
    have e : t = .opq := by simpa [RV.fits] using hf
    subst e
    obtain ⟨x, y, rfl, _⟩ := h
    exact ⟨rfl, rfl⟩
  | .iface T r, t, v, h, hf => by
    have e : t = .opq := by simpa [RV.fits] using hf
    subst e
    obtain ⟨u, rfl, _⟩ := h
    exact ⟨rfl, rfl⟩
  | .nilI, t, v, h, hf => by
    have e : t = .opq := by simpa [RV.fits] using hf
    subst e
    simp only [RV.rel] at h
    subst h
    exact ⟨rfl, rfl⟩
  | .nilF, t, v, h, hf => by
    have e : t = .opq := by simpa [RV.fits] using hf
    subst e
    simp only [RV.rel] at h
    subst h
    exact ⟨rfl, rfl⟩
  | .nilP, t, v, h, hf => by
    have e : t = .opq := by simpa [RV.fits] using hf
    subst e
    simp only [RV.rel] at h
    subst h
    exact ⟨rfl, rfl⟩
  | .undef, _, _, _, hf => by simp [RV.fits] at hf
  | .atl _, _, _, _, hf => by simp [RV.fits] at hf
  | .lim .., _, _, _, hf => by simp [RV.fits] at hf
  | .yld Y o, t, v, h, hf => by
    have e : t = .opq := by simpa [RV.fits] using hf
    subst e
    obtain ⟨_, l, rfl⟩ := h
    exact ⟨rfl, rfl⟩
  | .gp .., _, _, _, hf => by simp [RV.fits] at hf
  | .dfr .., _, _, _, hf => by simp [RV.fits] at hf
  | .clip .., _, _, _, hf => by simp [RV.fits] at hf
  | .nilv, _, _, _, hf => by simp [RV.fits] at hf
  | .view .., _, _, _, hf => by simp [RV.fits] at hf
  | .tup _, _, _, _, hf => by simp [RV.fits] at hf
theorem RV.relL_fits {φ : Phi} {ι : Nat → Value} {w : World} : ∀ (l : List RV) (t : Ty) (cs : List Value), RV.relL φ ι w l cs → RV.fitsL l t = true → cs.length = t.size ∧ t.isAgg = true
  | [], t, cs, h, hf => by
    have e : t = .unit := by simpa [RV.fitsL] using hf
    subst e
    simp only [RV.relL] at h
    subst h
    exact ⟨rfl, rfl⟩
  | r :: l, t, cs, ⟨v, c2, e, h1, h2⟩, hf => by
    subst e
    cases t with
    | pair a b =>
      simp only [RV.fitsL, Bool.and_eq_true] at hf
      have g1 := (RV.rel_fits r a v h1 hf.1).1
      have g2 := (RV.relL_fits l b c2 h2 hf.2).1
      exact ⟨by simp [Ty.size, g1, g2], rfl⟩
    | _ => simp [RV.fitsL] at hf
end
end Go.X
/- The engine, part G: operations that only compute. -/
set_option linter.unusedVariables false
set_option linter.unusedSimpArgs false
namespace Go.X
open Go.RowKit

/-- How the list of objects has grown. -/
structure Nx (H : List Ob) (n : Nat) (H' : List Ob) (n' : Nat) : Prop where
  le : n ≤ n'
  len : H.length ≤ H'.length
  top : n ≤ H.length → n' ≤ H'.length
  same : ∀ i, i < n ∨ n' ≤ i → (getOb H' i).live = (getOb H i).live
  seq : n = H.length → H'.length = n'
theorem Nx.refl (H : List Ob) (n : Nat) : Nx H n H n := ⟨Nat.le_refl _, Nat.le_refl _, id, fun _ _ => rfl, fun h => h.symm⟩
theorem Nx.trans {H H' H'' : List Ob} {n n' n'' : Nat} (a : Nx H n H' n') (b : Nx H' n' H'' n'') : Nx H n H'' n'' :=
  ⟨Nat.le_trans a.le b.le, Nat.le_trans a.len b.len, fun h => b.top (a.top h), fun i hi => (b.same i (hi.imp (fun h => Nat.lt_of_lt_of_le h a.le) id)).trans (a.same i (hi.imp id (fun h => Nat.le_trans b.le h))), fun h => b.seq (a.seq h).symm⟩
theorem Ghost.nx [Env] {φ : Phi} {ι : Nat → Value} {w : World} {H : List Ob} {φ' : Phi} {H' : List Ob} (g : Ghost φ ι w H φ' H') (n : Nat) : Nx H n H' n :=
  ⟨Nat.le_refl _, by rw [g.len]; exact Nat.le_refl _, fun h => by rw [g.len]; exact h, fun i _ => g.live i, fun h => by rw [g.len, h]⟩
/-- What an operation that hands back a value does. -/
def Yld [Env] (φ : Phi) (ι : Nat → Value) (w : World) (H : List Ob) (n : Nat) (r : RV) (H' : List Ob) (n' : Nat) (run : Result Value) : Prop :=
  ∃ v w' φ' ι', run = .ok v w' ∧ HRel φ' ι' w' H' ∧ Step φ ι w H φ' ι' w' H' ∧ Keep ι H ι' H' ∧ Nx H n H' n' ∧ r.rel φ' ι' w' v ∧ ∀ i ∈ r.ids, (getOb H' i).live = true
theorem Yld.pure [Env] {φ : Phi} {ι : Nat → Value} {w : World} {H : List Ob} {n : Nat} {r : RV} {v : Value} (h : HRel φ ι w H) (hr : r.rel φ ι w v) (hl : ∀ i ∈ r.ids, (getOb H i).live = true) {run : Result Value} (e : run = .ok v w) : Yld φ ι w H n r H n run :=
  ⟨v, w, φ, ι, e, h, Step.refl _ _ _ _, Keep.refl _ _, Nx.refl _ _, hr, hl⟩
theorem Yld.ghost [Env] {φ : Phi} {ι : Nat → Value} {w : World} {H : List Ob} {n : Nat} {r : RV} {v : Value} {φ' : Phi} {H' : List Ob} (g : Ghost φ ι w H φ' H') (hr : r.rel φ' ι w v) (hl : ∀ i ∈ r.ids, (getOb H' i).live = true) {run : Result Value} (e : run = .ok v w) : Yld φ ι w H n r H' n run :=
  ⟨v, w, φ', ι, e, g.rel, g.step, g.keep, g.nx n, hr, hl⟩
/-- A scalar that hangs on nothing. -/
def Plain (r : RV) (v : Value) : Prop := r.ids = [] ∧ ∀ φ ι w, r.rel φ ι w v
theorem Plain.int (k : IntKind) (a : Int) : Plain (.dat (.int k) a) (.int k a) := ⟨rfl, fun _ _ _ => VR.int.2 rfl⟩
theorem Plain.bool (a : Bool) : Plain (.dat .bool a) (.bool a) := ⟨rfl, fun _ _ _ => VR.bool.2 rfl⟩
theorem Plain.str (a : List UInt8) : Plain (.dat .str a) (.string ⟨⟨a⟩⟩) := ⟨rfl, fun _ _ _ => VR.str.2 rfl⟩

section
variable {P : Program} {H : List Ob} {n : Nat} {r : RV} {H' : List Ob} {n' : Nat}
theorem intBin_run {op : BinOp} {k : IntKind} {a b : Int} (e : (intBin op k a b).go H n = some (r, H', n')) (h1 : op ≠ .shl) (h2 : op ≠ .shr) :
    H' = H ∧ n' = n ∧ ∃ v, Plain r v ∧ ∀ (w : World) (T : TypeId) (x y : Operand), (do eqGuard op T x y (.int k a) (.int k b); binOp op T (.int k a) (.int k b) : Sem Value).run P w = .ok v w := by
  cases op <;> simp only [intBin, HM.go, Option.some.injEq, Prod.mk.injEq, reduceCtorEq] at e
  case add => obtain ⟨rfl, rfl, rfl⟩ := e; exact ⟨rfl, rfl, _, Plain.int _ _, fun w T x y => by simp [eqGuard, binOp, Op.intArith]⟩
  case sub => obtain ⟨rfl, rfl, rfl⟩ := e; exact ⟨rfl, rfl, _, Plain.int _ _, fun w T x y => by simp [eqGuard, binOp, Op.intArith]⟩
  case mul => obtain ⟨rfl, rfl, rfl⟩ := e; exact ⟨rfl, rfl, _, Plain.int _ _, fun w T x y => by simp [eqGuard, binOp, Op.intArith]⟩
  case quo =>
    by_cases hb : b = 0
    · simp [hb] at e
    · simp only [hb, decide_false, cond_false, Option.some.injEq, Prod.mk.injEq] at e
      obtain ⟨rfl, rfl, rfl⟩ := e
      exact ⟨rfl, rfl, _, Plain.int _ _, fun w T x y => by simp [eqGuard, binOp, Op.intDiv, hb]⟩
  case rem =>
    by_cases hb : b = 0
    · simp [hb] at e
    · simp only [hb, decide_false, cond_false, Option.some.injEq, Prod.mk.injEq] at e
      obtain ⟨rfl, rfl, rfl⟩ := e
      exact ⟨rfl, rfl, _, Plain.int _ _, fun w T x y => by simp [eqGuard, binOp, Op.intDiv, hb]⟩
  case and => obtain ⟨rfl, rfl, rfl⟩ := e; exact ⟨rfl, rfl, _, Plain.int _ _, fun w T x y => by simp [eqGuard, binOp, Op.intBits]⟩
  case or => obtain ⟨rfl, rfl, rfl⟩ := e; exact ⟨rfl, rfl, _, Plain.int _ _, fun w T x y => by simp [eqGuard, binOp, Op.intBits]⟩
  case xor => obtain ⟨rfl, rfl, rfl⟩ := e; exact ⟨rfl, rfl, _, Plain.int _ _, fun w T x y => by simp [eqGuard, binOp, Op.intBits]⟩
  case andNot => obtain ⟨rfl, rfl, rfl⟩ := e; exact ⟨rfl, rfl, _, Plain.int _ _, fun w T x y => by simp [eqGuard, binOp, Op.intBits]⟩
  case eql => obtain ⟨rfl, rfl, rfl⟩ := e; exact ⟨rfl, rfl, _, Plain.bool _, fun w T x y => by simp [eqGuard, binOp, Op.intCmp]; rfl⟩
  case neq => obtain ⟨rfl, rfl, rfl⟩ := e; exact ⟨rfl, rfl, _, Plain.bool _, fun w T x y => by simp [eqGuard, binOp, Op.intCmp, bne]; rfl⟩
  case lss => obtain ⟨rfl, rfl, rfl⟩ := e; exact ⟨rfl, rfl, _, Plain.bool _, fun w T x y => by simp [eqGuard, binOp, Op.intCmp]⟩
  case leq => obtain ⟨rfl, rfl, rfl⟩ := e; exact ⟨rfl, rfl, _, Plain.bool _, fun w T x y => by simp [eqGuard, binOp, Op.intCmp]⟩
  case gtr => obtain ⟨rfl, rfl, rfl⟩ := e; exact ⟨rfl, rfl, _, Plain.bool _, fun w T x y => by simp [eqGuard, binOp, Op.intCmp]⟩
  case geq => obtain ⟨rfl, rfl, rfl⟩ := e; exact ⟨rfl, rfl, _, Plain.bool _, fun w T x y => by simp [eqGuard, binOp, Op.intCmp]⟩
theorem shiftOp_run {op : BinOp} {k k' : IntKind} {a b : Int} (e : (shiftOp op k a b).go H n = some (r, H', n')) :
    H' = H ∧ n' = n ∧ ∃ v, Plain r v ∧ ∀ (w : World) (T : TypeId) (x y : Operand), (do eqGuard op T x y (.int k a) (.int k' b); binOp op T (.int k a) (.int k' b) : Sem Value).run P w = .ok v w := by
  cases op <;> simp only [shiftOp, HM.go, reduceCtorEq] at e
  case shl =>
    by_cases hb : b < 0
    · simp [hb] at e
    · simp only [hb, decide_false, cond_false, Option.some.injEq, Prod.mk.injEq] at e
      obtain ⟨rfl, rfl, rfl⟩ := e
      exact ⟨rfl, rfl, _, Plain.int _ _, fun w T x y => by simp [eqGuard, binOp, Op.shift, hb]⟩
  case shr =>
    by_cases hb : b < 0
    · simp [hb] at e
    · simp only [hb, decide_false, cond_false, Option.some.injEq, Prod.mk.injEq] at e
      obtain ⟨rfl, rfl, rfl⟩ := e
      exact ⟨rfl, rfl, _, Plain.int _ _, fun w T x y => by simp [eqGuard, binOp, Op.shift, hb]⟩
theorem toList_mk (x : List UInt8) : (⟨⟨x⟩⟩ : ByteArray).toList = x := ByteArray.toList_eq _
theorem beq_dec (a b : List UInt8) : (a == b) = decide (a = b) := by rw [Bool.eq_iff_iff]; simp
theorem strBin_run {op : BinOp} {a b : List UInt8} (e : (strBin op a b).go H n = some (r, H', n')) :
    H' = H ∧ n' = n ∧ ∃ v, Plain r v ∧ ∀ (w : World) (T : TypeId) (x y : Operand), (do eqGuard op T x y (.string ⟨⟨a⟩⟩) (.string ⟨⟨b⟩⟩); binOp op T (.string ⟨⟨a⟩⟩) (.string ⟨⟨b⟩⟩) : Sem Value).run P w = .ok v w := by
  cases op <;> simp only [strBin, HM.chk, HM.go, Option.some.injEq, Prod.mk.injEq, reduceCtorEq] at e
  case add =>
    by_cases hb : a.length + b.length ≤ roomMax
    · simp only [hb, decide_true, cond_true, Option.some.injEq, Prod.mk.injEq] at e
      obtain ⟨rfl, rfl, rfl⟩ := e
      refine ⟨rfl, rfl, .string ⟨⟨a ++ b⟩⟩, Plain.str _, fun w T x y => ?_⟩
      have h1 : (⟨⟨a⟩⟩ : ByteArray).size = a.length := rfl
      have h2 : (⟨⟨b⟩⟩ : ByteArray).size = b.length := rfl
      have hm : IntKind.i64.max = 9223372036854775807 := rfl
      unfold roomMax at hb
      have h4 : (⟨⟨a⟩⟩ : ByteArray) ++ (⟨⟨b⟩⟩ : ByteArray) = ⟨⟨a ++ b⟩⟩ := by
        apply ByteArray.ext
        simp [ByteArray.data_append]
      simp only [eqGuard, binOp, Op.stringOp, h1, h2, h4]; simp; omega
    · simp [hb] at e
  case eql => obtain ⟨rfl, rfl, rfl⟩ := e; exact ⟨rfl, rfl, _, Plain.bool _, fun w T x y => by simp [eqGuard, binOp, Op.stringOp, toList_mk, beq_dec]⟩
  case neq => obtain ⟨rfl, rfl, rfl⟩ := e; exact ⟨rfl, rfl, _, Plain.bool _, fun w T x y => by simp [eqGuard, binOp, Op.stringOp, toList_mk, beq_dec]⟩
  case lss => obtain ⟨rfl, rfl, rfl⟩ := e; exact ⟨rfl, rfl, _, Plain.bool _, fun w T x y => by simp [eqGuard, binOp, Op.stringOp, toList_mk]⟩
  case leq => obtain ⟨rfl, rfl, rfl⟩ := e; exact ⟨rfl, rfl, _, Plain.bool _, fun w T x y => by simp [eqGuard, binOp, Op.stringOp, toList_mk, beq_dec]⟩
  case gtr => obtain ⟨rfl, rfl, rfl⟩ := e; exact ⟨rfl, rfl, _, Plain.bool _, fun w T x y => by simp [eqGuard, binOp, Op.stringOp, toList_mk, beq_dec]⟩
  case geq => obtain ⟨rfl, rfl, rfl⟩ := e; exact ⟨rfl, rfl, _, Plain.bool _, fun w T x y => by simp [eqGuard, binOp, Op.stringOp, toList_mk]⟩
end
end Go.X
/- The engine, part H: operators, conversions, places, loads. -/
set_option linter.unusedVariables false
set_option linter.unusedSimpArgs false
namespace Go.X
open Go.RowKit

section
variable {P : Program} {cx : Cx} {φ : Phi} {ι : Nat → Value} {w : World} {H : List Ob} {n : Nat} {r : RV} {H' : List Ob} {n' : Nat}
theorem Yld.plain [Env] {v : Value} (h : HRel φ ι w H) (hp : Plain r v) {run : Result Value} (e : run = .ok v w) : Yld φ ι w H n r H n run :=
  Yld.pure h (hp.2 φ ι w) (by rw [hp.1]; simp) e
theorem run_equalIn_bool {T : TypeId} (hd : P.underlying T = some .bool) (d : Nat) (a b : Bool) (w : World) : (Op.equalIn (d + 1) T (.bool a) (.bool b)).run P w = .ok (a == b) w := by
  simp [Op.equalIn, run_underlying hd]
theorem run_equal_bool {T : TypeId} (hd : P.underlying T = some .bool) (a b : Bool) (w : World) : (Op.equal T (.bool a) (.bool b)).run P w = .ok (a == b) w := run_equalIn_bool hd 9999 a b w
theorem binAct_sound [Env] (tab : TabOK P cx) {op : BinOp} {T : TypeId} {x y : RV} (e : (binAct cx op T x y).go H n = some (r, H', n')) (h : HRel φ ι w H) {vx vy : Value} (hx : x.rel φ ι w vx) (hy : y.rel φ ι w vy)
    (lx : ∀ i ∈ x.ids, (getOb H i).live = true) (ly : ∀ i ∈ y.ids, (getOb H i).live = true) (xo yo : Operand) :
    Yld φ ι w H n r H' n' ((do eqGuard op T xo yo vx vy; binOp op T vx vy : Sem Value).run P w) := by
  unfold binAct at e
  split at e
  · rename_i k a k' b
    obtain rfl := VR.int.1 hx
    obtain rfl := VR.int.1 hy
    split at e
    · obtain ⟨rfl, rfl, v, hp, hr⟩ := shiftOp_run (P := P) (k' := k') e
      exact Yld.plain h hp (hr w T xo yo)
    · obtain ⟨rfl, rfl, v, hp, hr⟩ := shiftOp_run (P := P) (k' := k') e
      exact Yld.plain h hp (hr w T xo yo)
    · rename_i h1 h2
      by_cases hk : k = k'
      · subst hk
        simp only [decide_true, cond_true] at e
        obtain ⟨rfl, rfl, v, hp, hr⟩ := intBin_run (P := P) e h1 h2
        exact Yld.plain h hp (hr w T xo yo)
      · simp [hk, HM.go] at e
  · rename_i a b
    obtain rfl := VR.str.1 hx
    obtain rfl := VR.str.1 hy
    obtain ⟨rfl, rfl, v, hp, hr⟩ := strBin_run (P := P) e
    exact Yld.plain h hp (hr w T xo yo)
  · rename_i k a m
    obtain rfl := VR.int.1 hx
    obtain ⟨c, rfl, hc⟩ : ∃ c : Nat, vy = .int .i64 (c : Int) ∧ m ≤ c := hy
    split at e
    · by_cases hk : k = .i64
      · subst hk
        simp only [decide_true, cond_true] at e
        obtain ⟨hb, e⟩ := HM.go_chk e
        simp only [HM.go, Option.some.injEq, Prod.mk.injEq] at e
        obtain ⟨rfl, rfl, rfl⟩ := e
        have hb : @LE.le Int _ a (m : Int) := of_decide_eq_true hb
        have hf : decide (@GT.gt Int _ a (c : Int)) = false := decide_eq_false (by omega)
        have e2 : (intBin .gtr .i64 a (c : Int)).go H n = some (.dat .bool false, H, n) := by simp only [intBin, HM.go, hf]
        obtain ⟨-, -, v, hp, hr⟩ := intBin_run (P := P) e2 (by simp) (by simp)
        exact Yld.plain h hp (hr w T xo yo)
      · simp [hk, HM.go] at e
    · simp [HM.go] at e
  · rename_i a b
    obtain rfl := VR.bool.1 hx
    obtain rfl := VR.bool.1 hy
    by_cases hT : cx.isTy T .bool = true
    · obtain ⟨i, hi, hty⟩ := isTy_of hT
      have hd := (tab T i hi).desc
      unfold descOk at hd
      rw [hty] at hd
      simp only at hd
      rw [hT] at e
      simp only [cond_true] at e
      cases op <;> simp only [HM.go, Option.some.injEq, Prod.mk.injEq, reduceCtorEq] at e
      case eql =>
        obtain ⟨rfl, rfl, rfl⟩ := e
        refine Yld.plain h (Plain.bool _) ?_
        simp only [eqGuard, binOp, Sem.run_bind, Sem.run_pure, Result.andThen_ok, run_equal_bool hd]; simp
      case neq =>
        obtain ⟨rfl, rfl, rfl⟩ := e
        refine Yld.plain h (Plain.bool _) ?_
        simp only [eqGuard, binOp, Sem.run_bind, Sem.run_pure, Result.andThen_ok, run_equal_bool hd]; simp
    · simp [hT, HM.go] at e
  · split at e
    · rename_i i hi
      by_cases hc : (i.cmp && i.ty.cmp && i.ty.isAgg) = true
      · rw [hc] at e
        simp only [cond_true] at e
        simp only [Bool.and_eq_true] at hc
        obtain ⟨a, H1, n1, e1, e3⟩ := HM.go_bind_some e
        clear e
        obtain ⟨b, H2, n2, e2, e⟩ := HM.go_bind_some e3
        clear e3
        obtain ⟨rfl, φ1, g1, v1⟩ := toTy_sound e1 h hx lx
        obtain ⟨rfl, φ2, g2, v2⟩ := toTy_sound e2 g1.rel (RV.rel_step g1.step g1.keep ly hy) (fun i hi => by rw [g1.live]; exact ly i hi)
        have v1 := v1.mono g2.step.phi g2.step.cells
        have hq := (tab T i hi).cmp hc.1.1 hc.1.2 hc.2 φ2 w a b vx vy xo yo v1 v2
        cases op <;> simp only [HM.go, Option.some.injEq, Prod.mk.injEq, reduceCtorEq] at e
        case eql =>
          obtain ⟨rfl, rfl, rfl⟩ := e
          exact Yld.ghost (g1.trans g2) ((Plain.bool _).2 _ _ _) (by simp [RV.ids]) hq.1
        case neq =>
          obtain ⟨rfl, rfl, rfl⟩ := e
          exact Yld.ghost (g1.trans g2) ((Plain.bool _).2 _ _ _) (by simp [RV.ids]) hq.2
      · simp only [Bool.not_eq_true] at hc
        rw [hc] at e
        simp [HM.go] at e
    · simp [HM.go] at e
theorem unAct_sound [Env] {op : UnOp} {x : RV} (e : (unAct op x).go H n = some (r, H', n')) (h : HRel φ ι w H) {vx : Value} (hx : x.rel φ ι w vx) : Yld φ ι w H n r H' n' ((Op.unary op vx).run P w) := by
  unfold unAct at e
  split at e
  · obtain rfl := VR.int.1 hx
    simp only [HM.go, Option.some.injEq, Prod.mk.injEq] at e
    obtain ⟨rfl, rfl, rfl⟩ := e
    exact Yld.plain h (Plain.int _ _) (by simp [Op.unary, Op.intArith])
  · obtain rfl := VR.bool.1 hx
    simp only [HM.go, Option.some.injEq, Prod.mk.injEq] at e
    obtain ⟨rfl, rfl, rfl⟩ := e
    exact Yld.plain h (Plain.bool _) (by simp [Op.unary])
  · obtain rfl := VR.int.1 hx
    simp only [HM.go, Option.some.injEq, Prod.mk.injEq] at e
    obtain ⟨rfl, rfl, rfl⟩ := e
    exact Yld.plain h (Plain.int _ _) (by simp [Op.unary, Op.intBits])
  · simp [HM.go] at e
def valOf (t : Ty) (cs : List Value) : Value := if t.isAgg then .agg cs.toArray else cs.headD undef
theorem one_plain {v : Value} (h : v.oneCell' = true) : isAggV v = false := by cases v <;> first | rfl | (simp [Value.oneCell'] at h)
theorem VR.of {t : Ty} {x : t.den} {cs : List Value} (h : CR φ w t x cs) : VR φ w t x (valOf t cs) ∧ (valOf t cs).cells.toList = cs := by
  unfold valOf
  by_cases ha : t.isAgg = true
  · rw [if_pos ha]
    have : (Value.agg cs.toArray).cells.toList = cs := by simp [Value.cells]
    exact ⟨⟨by rw [this]; exact h, by rw [ha]; rfl⟩, this⟩
  · simp only [Bool.not_eq_true] at ha
    rw [if_neg (by simp [ha])]
    have hl := h.len
    have hs : t.size = 1 := by cases t <;> first | rfl | (simp [Ty.isAgg] at ha)
    rw [hs] at hl
    obtain ⟨v, rfl⟩ := List.length_eq_one_iff.1 hl
    have hv := one_plain (h.one _ _ _ v (by simp))
    have hc : v.cells.toList = [v] := by rw [cells_plain hv]
    simp only [List.headD_cons]
    exact ⟨⟨by rw [hc]; exact h, hv.trans ha.symm⟩, hc⟩
/-- A component of a value. -/
theorem comp_sound {i : Nat} {t : Ty} {x s : RV} {v : Value} (hr : x.rel φ ι w v) (hf : x.fits t = true) (hc : x.comp i = some s) :
    ∃ u vs, t.nth i = some u ∧ s.rel φ ι w vs ∧ s.fits u = true ∧ vs.cells.toList = (v.cells.toList.drop (t.offs i)).take u.size ∧ isAggV vs = u.isAgg ∧ ∀ j ∈ s.ids, j ∈ x.ids := by
  unfold RV.comp at hc
  split at hc
  · rename_i l i
    obtain ⟨cs, rfl, hr⟩ := hr
    simp only [RV.fits] at hf
    suffices hh : ∀ (l : List RV) (t : Ty) (cs : List Value) (i : Nat), RV.relL φ ι w l cs → RV.fitsL l t = true → l[i]? = some s →
        ∃ u vs, t.nth i = some u ∧ s.rel φ ι w vs ∧ s.fits u = true ∧ vs.cells.toList = (cs.drop (t.offs i)).take u.size ∧ isAggV vs = u.isAgg ∧ ∀ j ∈ s.ids, j ∈ RV.idsL l by
      simpa [RV.ids, Value.cells] using hh _ t cs.toList _ hr hf hc
    intro l
    induction l with
    | nil => intro t cs i _ _ h; simp at h
    | cons a l ih =>
      intro t cs i hr hf hi
      obtain ⟨v, c2, rfl, h1, h2⟩ := hr
      cases t with
      | pair p q =>
        simp only [RV.fitsL, Bool.and_eq_true] at hf
        obtain ⟨g1, g2⟩ := RV.rel_fits a p v h1 hf.1
        cases i with
        | zero =>
          simp only [List.getElem?_cons_zero, Option.some.injEq] at hi
          subst hi
          refine ⟨p, v, rfl, h1, hf.1, ?_, g2, fun j hj => by simp [RV.idsL, hj]⟩
          simp only [Ty.offs, List.drop_zero]
          rw [← g1, show v.cells.size = v.cells.toList.length by simp, List.take_left]
        | succ i =>
          obtain ⟨u, vs, k1, k2, k3, k4, k5, k6⟩ := ih q c2 i h2 hf.2 (by simpa using hi)
          refine ⟨u, vs, k1, k2, k3, ?_, k5, fun j hj => by simp [RV.idsL, k6 j hj]⟩
          simp only [Ty.offs]
          rw [← g1, show v.cells.size = v.cells.toList.length by simp, ← List.drop_drop, List.drop_left]
          exact k4
      | _ => simp [RV.fitsL] at hf
  · rename_i i' u x
    have e : u = t := by simpa [RV.fits] using hf
    subst e
    obtain ⟨d, hd, rfl⟩ := Option.map_eq_some_iff.1 hc
    obtain ⟨g1, g2⟩ := proj_cells hr.1 hd
    obtain ⟨k1, k2⟩ := VR.of g2
    exact ⟨d.t, _, g1, k1, by simp [RV.fits], k2, k1.2, by simp [RV.ids]⟩
  · cases hc
theorem run_equalIn_nil1 {T : TypeId} {ms : Array (String × TypeId)} (hu : P.underlying T = some (.interface ms)) (d : Nat) (U : TypeId) (u : Value) (w : World) : (Op.equalIn (d + 1) T (.iface U u) .nilIface).run P w = .ok false w := by
  simp [Op.equalIn, run_underlying hu]
theorem run_equalIn_nil2 {T : TypeId} {ms : Array (String × TypeId)} (hu : P.underlying T = some (.interface ms)) (d : Nat) (w : World) : (Op.equalIn (d + 1) T .nilIface .nilIface).run P w = .ok true w := by
  simp [Op.equalIn, run_underlying hu]
theorem run_equal_nil {T : TypeId} {ms : Array (String × TypeId)} (hu : P.underlying T = some (.interface ms)) : (∀ U u, (Op.equal T (.iface U u) .nilIface).run P w = .ok false w) ∧ (Op.equal T .nilIface .nilIface).run P w = .ok true w :=
  ⟨fun U u => run_equalIn_nil1 hu 9999 U u w, run_equalIn_nil2 hu 9999 w⟩
theorem nilAct_sound [Env] (tab : TabOK P cx) {op : BinOp} {T : TypeId} {x : RV} (e : (nilAct cx op T x).go H n = some (r, H', n')) (h : HRel φ ι w H) {vx : Value} (hx : x.rel φ ι w vx) (lx : ∀ i ∈ x.ids, (getOb H i).live = true) (xo : Operand) (y : Value) (hy : y = .nilIface := by rfl) :
    Yld φ ι w H n r H' n' ((do eqGuard op T xo (.const y) vx .nilIface; binOp op T vx .nilIface : Sem Value).run P w) := by
  subst hy
  unfold nilAct at e
  split at e
  · rename_i i hi
    cases hn : i.nil
    · simp [hn, HM.go] at e
    · rw [hn, cond_true] at e
      obtain ⟨ms, hu⟩ := (tab T i hi).iface hn
      obtain ⟨q1, q2⟩ := run_equal_nil (w := w) hu
      split at e
      · simp only [HM.go, Option.some.injEq, Prod.mk.injEq] at e
        obtain ⟨rfl, rfl, rfl⟩ := e
        obtain ⟨u, rfl, -⟩ := hx
        refine Yld.plain h (Plain.bool _) ?_
        simp [eqGuard, binOp, q1, q2]
      · simp only [HM.go, Option.some.injEq, Prod.mk.injEq] at e
        obtain ⟨rfl, rfl, rfl⟩ := e
        obtain ⟨u, rfl, -⟩ := hx
        refine Yld.plain h (Plain.bool _) ?_
        simp [eqGuard, binOp, q1, q2]
      · simp only [HM.go, Option.some.injEq, Prod.mk.injEq] at e
        obtain ⟨rfl, rfl, rfl⟩ := e
        obtain rfl : vx = .nilIface := hx
        refine Yld.plain h (Plain.bool _) ?_
        simp [eqGuard, binOp, q1, q2]
      · simp only [HM.go, Option.some.injEq, Prod.mk.injEq] at e
        obtain ⟨rfl, rfl, rfl⟩ := e
        obtain rfl : vx = .nilIface := hx
        refine Yld.plain h (Plain.bool _) ?_
        simp [eqGuard, binOp, q1, q2]
      · simp [HM.go] at e
  · simp [HM.go] at e
end
end Go.X
/- The engine, part I: loads, places, indices, slices. -/
set_option linter.unusedVariables false
set_option linter.unusedSimpArgs false
namespace Go.X
open Go.RowKit

section
variable {P : Program} {cx : Cx} {φ : Phi} {ι : Nat → Value} {w : World} {H : List Ob} {n : Nat} {r : RV} {H' : List Ob} {n' : Nat}
theorem rel_dat {t : Ty} {x : t.den} {v : Value} (h : VR φ w t x v) : (RV.dat t x).rel φ ι w v := h
theorem val_eq {v : Value} {cs : List Value} {t : Ty} (h1 : v.cells.toList = cs) (h2 : isAggV v = t.isAgg) : v = valOf t cs := by
  unfold valOf
  by_cases ha : t.isAgg = true
  · rw [if_pos ha]
    obtain ⟨c, rfl⟩ := agg_of (h2.trans ha)
    simp only [Value.cells] at h1
    rw [← h1]
  · simp only [Bool.not_eq_true] at ha
    rw [if_neg (by simp [ha])]
    rw [cells_plain (h2.trans ha)] at h1
    subst h1
    rfl
theorem atPath_sound {p : List Nat} : ∀ {t : Ty} {x s : RV} {v : Value}, x.rel φ ι w v → x.fits t = true → x.atPath p = some s →
    ∃ u vs, t.at_ p = some u ∧ s.rel φ ι w vs ∧ s.fits u = true ∧ vs.cells.toList = (v.cells.toList.drop (t.offAt p)).take u.size ∧ isAggV vs = u.isAgg ∧ ∀ j ∈ s.ids, j ∈ x.ids := by
  induction p with
  | nil =>
    intro t x s v hr hf hp
    simp only [RV.atPath, Option.some.injEq] at hp
    subst hp
    obtain ⟨g1, g2⟩ := RV.rel_fits x t v hr hf
    refine ⟨t, v, rfl, hr, hf, ?_, g2, fun j hj => hj⟩
    simp only [Ty.offAt, List.drop_zero]
    rw [← g1, show v.cells.size = v.cells.toList.length by simp, List.take_length]
  | cons i p ih =>
    intro t x s v hr hf hp
    simp only [RV.atPath] at hp
    split at hp
    · rename_i y hy
      obtain ⟨u, vs, k1, k2, k3, k4, k5, k6⟩ := comp_sound hr hf hy
      obtain ⟨u', vs', l1, l2, l3, l4, l5, l6⟩ := ih k2 k3 hp
      refine ⟨u', vs', by simp only [Ty.at_, k1, l1], l2, l3, ?_, l5, fun j hj => k6 j (l6 j hj)⟩
      have hle := at_offs l1
      rw [l4, k4]
      simp only [Ty.offAt, k1]
      rw [List.drop_take, List.take_take, List.drop_drop, Nat.min_eq_left (by omega)]
    · cases hp
theorem run_loadVarX (tab : TabOK P cx) {T : TypeId} {i : TI} (hi : cx.ti T = some i) {b o : Nat} {cs : List Value} (hl : cs.length = i.ty.size) (hc : ∀ j v, cs[j]? = some v → w.cell? ⟨b, o + j, none⟩ = some v) :
    (loadVar T ⟨b, o, none⟩).run P w = .ok (valOf i.ty cs) w := by
  unfold loadVar
  simp only [Sem.run_bind, run_isAggX tab hi, Result.andThen_ok]
  unfold valOf
  by_cases ha : i.ty.isAgg = true
  · rw [if_pos ha, if_pos ha]
    have := run_loadCells_list (P := P) w ⟨b, o, none⟩ cs (fun j v hj => by rw [addr_add]; exact hc j v hj)
    simp only [Sem.run_bind, run_sizeOfX tab hi, Result.andThen_ok, ← hl, this, Sem.run_pure]
  · simp only [Bool.not_eq_true] at ha
    have hs : i.ty.size = 1 := by cases h : i.ty <;> first | rfl | (rw [h] at ha; simp [Ty.isAgg] at ha)
    rw [hs] at hl
    obtain ⟨v, rfl⟩ := List.length_eq_one_iff.1 hl
    have := hc 0 v rfl
    simp only [Nat.add_zero] at this
    simp [ha, load, Sem.run, this]
theorem slice_inj {A A' : Option Addr} {n n' c c' : Nat} (h : Value.slice A n c = .slice A' n' c') : A = A' ∧ n = n' ∧ c = c' := by injection h with a b c; exact ⟨a, b, c⟩
/-- The cells of a place inside an element of an array, or inside a box. -/
theorem ptr_arr [Env] (h : HRel φ ι w H) {o : Nat} {e : TypeId} {t : Ty} {xs : List t.den} {fz : Bool} (ho : getOb H o = .arr e t xs fz) {i : Nat} {p : List Nat} {v : Value} (hr : (RV.ptr o t i p).rel φ ι w v) :
    ∃ b cur fr k, v = .pointer (some ⟨b, k + i * t.size + t.offAt p, none⟩) ∧ w.heap[b]? = some (.cells cur e fr) ∧ frOk fr cur.size ∧ (∀ v ∈ cur.toList, v.oneCell' = true) ∧ i < xs.length ∧ k + (i + 1) * t.size ≤ cur.size ∧ blk (ι o) = some b ∧
      CR φ w t (xs.getD i t.zero) ((cur.toList.drop (k + i * t.size)).take t.size) ∧ bof (ι o) = k := by
  obtain ⟨b, k, hb, rfl, hp⟩ := hr
  have hro := h.obj o
  rw [ho] at hro
  rcases hb with ⟨n, c, hb, hi⟩ | ⟨hb, _⟩
  · obtain ⟨A, n', c', e1, e2, e3, e4, hh⟩ := hro
    rw [hb] at e1
    obtain ⟨rfl, rfl, rfl⟩ := slice_inj e1
    rcases hh with hh | ⟨b', pre, cur, fr, e5, g1, g2, g3, g0, g4, g5, g6, g7⟩
    · omega
    · injection e5 with e5
      injection e5 with e5 e5'
      subst e5 e5'
      have hle : (i + 1) * t.size ≤ n * t.size := Nat.mul_le_mul_right _ hi
      have hle2 : n * t.size ≤ c * t.size := Nat.mul_le_mul_right _ e3
      have hone : ∀ v ∈ (pre ++ cur).toList, v.oneCell' = true := fun v hv => by
        rw [Array.toList_append] at hv
        rcases List.mem_append.1 hv with hv | hv
        · exact g0 v hv
        · exact g4.one v hv
      refine ⟨b, pre ++ cur, fr, pre.size, rfl, g1, by rw [Array.size_append]; exact g3.ok, hone, by omega, by rw [Array.size_append]; omega, by rw [hb]; simp [blk]; omega, ?_, by rw [hb]; rfl⟩
      have hdr : (pre ++ cur).toList.drop (pre.size + i * t.size) = cur.toList.drop (i * t.size) := by
        rw [Array.toList_append, ← List.drop_drop, show pre.size = pre.toList.length by simp, List.drop_left]
      rw [hdr]
      have hx : xs[i]? = some (xs.getD i t.zero) := by
        rw [List.getD_eq_getElem?_getD, List.getElem?_eq_getElem (by omega)]; rfl
      have hg := g5.get (fun x c => CR.len t x c) _ _ i _ hx
      rw [Nat.add_mul, Nat.one_mul] at hle
      rw [List.drop_take, List.take_take, Nat.min_eq_left (by omega)] at hg
      exact hg
  · obtain ⟨A, n', c', e1, _⟩ := hro
    rw [hb] at e1
    cases e1
theorem ptr_box [Env] (h : HRel φ ι w H) {o : Nat} {T : TypeId} {t : Ty} {x : RV} (ho : getOb H o = .box T t x) {i : Nat} {p : List Nat} {v : Value} (hr : (RV.ptr o t i p).rel φ ι w v) :
    ∃ b cur fr u, v = .pointer (some ⟨b, t.offAt p, none⟩) ∧ w.heap[b]? = some (.cells cur T fr) ∧ cur.size = t.size ∧ frOk fr cur.size ∧ (∀ v ∈ cur.toList, v.oneCell' = true) ∧ x.rel φ ι w u ∧ u.cells = cur ∧ x.fits t = true ∧ blk (ι o) = some b := by
  obtain ⟨b, k, hb, rfl, hp⟩ := hr
  have hro := h.obj o
  rw [ho] at hro
  obtain ⟨b', cur, fr, u, e1, g1, g2, g3, g4, g5, g6, g7, g8⟩ := hro
  rcases hb with ⟨n, c, hb, hi⟩ | ⟨hb, hi⟩
  · rw [hb] at e1; cases e1
  · rw [hb] at e1
    injection e1 with e1
    injection e1 with e1
    injection e1 with e1
    subst e1
    exact ⟨b, cur, fr, u, by rw [hi.1, hi.2]; simp, g1, g2, g3, g4, g5, g6, g7, by rw [hb]; rfl⟩
theorem loadAct_pure [Env] (tab : TabOK P cx) {T : TypeId} {a : RV} (e : (loadAct cx T a).go H n = some (r, H', n')) (h : HRel φ ι w H) {va : Value} (ha : a.rel φ ι w va) :
    H' = H ∧ n' = n ∧ ∃ v, (Instr.loadAt T va).run P w = .ok v w ∧ (do loadVar T (← asAddr va) : Sem Value).run P w = .ok v w ∧ r.rel φ ι w v ∧ ∀ i ∈ r.ids, (getOb H i).live = true := by
  unfold loadAct at e
  split at e
  · rename_i b off l
    by_cases hT : cx.isTy T .opq = true
    · obtain ⟨i, hi, hty⟩ := isTy_of hT
      rw [hT] at e
      simp only [cond_true] at e
      cases l with
      | nil => simp [HM.ofOpt, HM.bind, HM.go] at e
      | cons x l =>
        simp only [List.head?, HM.ofOpt, HM.bind, HM.go, Option.some.injEq, Prod.mk.injEq] at e
        obtain ⟨rfl, rfl, rfl⟩ := e
        obtain ⟨rfl, hat⟩ := ha
        have hc := (hat 0 (fval x) rfl).2
        have hrun := run_loadVarX (w := w) tab hi (cs := [fval x]) (b := b) (o := off) (by rw [hty]; rfl) (fun j v hj => by
          cases j with
          | zero =>
            obtain rfl : fval x = v := by simpa using hj
            exact hc
          | succ j => simp at hj)
        have hv : valOf i.ty [fval x] = fval x := by rw [hty]; rfl
        rw [hv] at hrun
        refine ⟨rfl, rfl, fval x, ?_, ?_, ?_, ?_⟩
        · simp [Instr.loadAt, Instr.sureAddr, asAddr, hrun]
        · simp [asAddr, hrun]
        · cases x with
          | none => rfl
          | some f => exact ⟨#[], #[], rfl, rfl, rfl⟩
        · cases x <;> simp [gfn, RV.ids, RV.idsL]
    · simp [hT, HM.go] at e
  · rename_i t v
    by_cases hT : cx.isTy T t = true
    · obtain ⟨i, hi, rfl⟩ := isTy_of hT
      rw [hT] at e
      simp only [cond_true, HM.go, Option.some.injEq, Prod.mk.injEq] at e
      obtain ⟨rfl, rfl, rfl⟩ := e
      obtain ⟨b, o, cs, rfl, hat, hc⟩ := ha
      have hrun := run_loadVarX (w := w) tab hi (hc.len) (fun j v hj => (hat j v hj).2)
      refine ⟨rfl, rfl, _, ?_, ?_, rel_dat (VR.of hc).1, by simp [RV.ids]⟩ <;> simp [Instr.loadAt, Instr.sureAddr, asAddr, hrun]
    · simp [hT, HM.go] at e
  · rename_i o s i p
    by_cases hT : cx.isTyO T (s.at_ p) = true
    · obtain ⟨ti, hi, hat⟩ := isTyO_of hT
      rw [hT] at e
      simp only [cond_true, HM.go] at e
      split at e
      · rename_i e0 t xs fz hm
        obtain ⟨fz', ho, rfl⟩ := mask_arr hm
        by_cases hst : s = t
        · subst hst
          simp only [decide_true, cond_true] at e
          obtain ⟨d, H1, n1, e1, e2⟩ := HM.go_bind_some e
          rw [HM.go_ofOpt] at e1
          obtain ⟨d', hd, e1⟩ := Option.map_eq_some_iff.1 e1
          simp only [Prod.mk.injEq] at e1
          obtain ⟨rfl, rfl, rfl⟩ := e1
          simp only [HM.go, Option.some.injEq, Prod.mk.injEq] at e2
          obtain ⟨rfl, rfl, rfl⟩ := e2
          obtain ⟨b, cur, fr, k0, rfl, g1, g2, g3, g4, g5, g6, g7, -⟩ := ptr_arr h ho ha
          obtain ⟨k1, k2⟩ := at_cells (d := ⟨s, xs.getD i s.zero⟩) g7 hd
          simp only at k1 k2
          rw [hat] at k1
          injection k1 with k1
          have hle := at_offs hat
          have hl := k2.len
          have hrun := run_loadVarX (w := w) (b := b) (o := k0 + i * s.size + s.offAt p) tab hi (by rw [k1]; exact hl) (fun j v hj => by
            rw [List.drop_take, List.take_take, List.drop_drop] at hj
            rw [List.getElem?_take] at hj
            split at hj
            · rw [List.getElem?_drop] at hj
              rw [cell_of_heap g1]
              simpa using hj
            · cases hj)
          refine ⟨rfl, rfl, _, ?_, ?_, rel_dat (VR.of k2).1, by simp [RV.ids]⟩ <;> simp [Instr.loadAt, Instr.sureAddr, asAddr, hrun, k1]
        · simp [hst, HM.go] at e
      · rename_i T' t x hm
        have ho := mask_box hm
        by_cases hst : s = t
        · subst hst
          simp only [decide_true, cond_true] at e
          rw [HM.go_ofOpt] at e
          obtain ⟨y, hy, e⟩ := Option.map_eq_some_iff.1 e
          simp only [Prod.mk.injEq] at e
          obtain ⟨rfl, rfl, rfl⟩ := e
          obtain ⟨b, cur, fr, u, rfl, g1, g2, g3, g4, g5, rfl, g7, g8⟩ := ptr_box h ho ha
          obtain ⟨ty, vs, k1, k2, k3, k4, k5, k6⟩ := atPath_sound g5 g7 hy
          rw [hat] at k1
          injection k1 with k1
          subst k1
          have hle := at_offs hat
          have hl : (vs.cells.toList).length = ti.ty.size := by rw [k4]; simp; omega
          have hrun := run_loadVarX (w := w) (b := b) (o := s.offAt p) (cs := vs.cells.toList) tab hi hl (fun j v hj => by
            rw [k4, List.getElem?_take] at hj
            split at hj
            · rw [List.getElem?_drop] at hj
              rw [cell_of_heap g1]
              simpa using hj
            · cases hj)
          refine ⟨rfl, rfl, _, ?_, ?_, k2, fun j hj => h.idsB o _ _ _ ho j (k6 j hj)⟩ <;> simp [Instr.loadAt, Instr.sureAddr, asAddr, hrun, ← val_eq rfl k5]
        · simp [hst, HM.go] at e
      · simp [HM.go] at e
    · simp [hT, HM.go] at e
  · simp [HM.go] at e
theorem loadAct_sound [Env] (tab : TabOK P cx) {T : TypeId} {a : RV} (e : (loadAct cx T a).go H n = some (r, H', n')) (h : HRel φ ι w H) {va : Value} (ha : a.rel φ ι w va) :
    Yld φ ι w H n r H' n' ((Instr.loadAt T va).run P w) := by
  obtain ⟨h1, h2, v, h3, -, h4, h5⟩ := loadAct_pure tab e h ha
  subst h1 h2
  exact Yld.pure h h4 h5 h3
end
end Go.X
/- The engine, part J: fields, indices, slices, lengths. -/
set_option linter.unusedVariables false
set_option linter.unusedSimpArgs false
namespace Go.X
open Go.RowKit

theorem at_append (t : Ty) (p q : List Nat) : t.at_ (p ++ q) = (t.at_ p).bind fun u => u.at_ q := by
  induction p generalizing t with
  | nil => simp [Ty.at_]
  | cons i p ih =>
    simp only [List.cons_append, Ty.at_]
    cases t.nth i with
    | none => rfl
    | some u => exact ih u
theorem offAt_append {t u : Ty} {p q : List Nat} (h : t.at_ p = some u) : t.offAt (p ++ q) = t.offAt p + u.offAt q := by
  induction p generalizing t with
  | nil => simp [Ty.at_] at h; subst h; simp [Ty.offAt]
  | cons i p ih =>
    simp only [Ty.at_] at h
    split at h
    · rename_i e he
      simp only [List.cons_append, Ty.offAt, he]
      rw [ih h, Nat.add_assoc]
    · cases h
section
variable {P : Program} {cx : Cx} {φ : Phi} {ι : Nat → Value} {w : World} {H : List Ob} {n : Nat} {r : RV} {H' : List Ob} {n' : Nat}
theorem go_ret {α : Type} {a b : α} {H H' : List Ob} {n n' : Nat} (e : (HM.ret a).go H n = some (b, H', n')) : b = a ∧ H' = H ∧ n' = n := by
  simp only [HM.go, Option.some.injEq, Prod.mk.injEq] at e
  exact ⟨e.1.symm, e.2.1.symm, e.2.2.symm⟩
theorem go_opt {α : Type} {o : Option α} {b : α} {H H' : List Ob} {n n' : Nat} (e : (HM.ofOpt o).go H n = some (b, H', n')) : o = some b ∧ H' = H ∧ n' = n := by
  rw [HM.go_ofOpt] at e
  obtain ⟨a, ha, e⟩ := Option.map_eq_some_iff.1 e
  simp only [Prod.mk.injEq] at e
  obtain ⟨rfl, rfl, rfl⟩ := e
  exact ⟨ha, rfl, rfl⟩
theorem go_bif {α : Type} {b : Bool} {x : HM α} {H : List Ob} {n : Nat} {r : α × List Ob × Nat} (e : (bif b then x else .fail).go H n = some r) : b = true ∧ x.go H n = some r := by
  cases b
  · simp [HM.go] at e
  · exact ⟨rfl, e⟩
theorem chain_desc (tab : TabOK P cx) {T : TypeId} {i : TI} (hi : cx.ti T = some i) {f : Nat} {u : TypeId} (hf : i.fields[f]? = some u) :
    (i.arr = false ∧ ∃ fs fd, P.underlying T = some (.struct fs) ∧ fs[f]? = some fd ∧ fd.type = u ∧ fieldOk P cx i.ty f u fd.offset) ∨
     (i.arr = true ∧ ∃ e ei, P.underlying T = some (.array i.fields.length e) ∧ P.info? e = some ei ∧ u = e ∧ fieldOk P cx i.ty f u (f * ei.size)) ∨ i.ty.isAgg = false := by
  have hd := (tab T i hi).desc
  unfold descOk at hd
  split at hd
  · rename_i e; exact .inr (.inr (by rw [e]; rfl))
  · rename_i e; exact .inr (.inr (by rw [e]; rfl))
  · rename_i e; exact .inr (.inr (by rw [e]; rfl))
  · rename_i e; exact .inr (.inr (by rw [e]; rfl))
  · rename_i e; exact .inr (.inr (by rw [e]; rfl))
  · rcases hd with ⟨ha, fs, hd, hs, hk⟩ | ⟨ha, n, e, ei, hd, hn, he, hk⟩
    · obtain ⟨fd, h1, h2, h3⟩ := hk f u hf
      exact .inl ⟨ha, fs, fd, hd, h1, h2, h3⟩
    · obtain ⟨h1, h2⟩ := hk f u hf
      exact .inr (.inl ⟨ha, e, ei, by rw [hn]; exact hd, he, h1, h2⟩)
theorem list_desc (tab : TabOK P cx) {T : TypeId} {i : TI} (hi : cx.ti T = some i) {t : Ty} (ht : i.ty = .list t) : P.underlying T = some (.slice i.elem) ∧ elemOk P i.elem t i.bytes := by
  have hd := (tab T i hi).desc
  unfold descOk at hd
  rw [ht] at hd
  exact ⟨hd.1, hd.2.1⟩
theorem list_elem (tab : TabOK P cx) {T : TypeId} {i : TI} (hi : cx.ti T = some i) {t : Ty} (ht : i.ty = .list t) : ∃ u, cx.ti i.elem = some u ∧ u.ty = t := by
  have hd := (tab T i hi).desc
  unfold descOk at hd
  rw [ht] at hd
  exact hd.2.2
theorem str_desc (tab : TabOK P cx) {T : TypeId} {i : TI} (hi : cx.ti T = some i) (ht : i.ty = .str) : P.underlying T = some .string := by
  have hd := (tab T i hi).desc
  unfold descOk at hd
  rw [ht] at hd
  exact hd
theorem int_desc (tab : TabOK P cx) {T : TypeId} {i : TI} (hi : cx.ti T = some i) {k : IntKind} (ht : i.ty = .int k) : P.underlying T = some (.int k) := by
  have hd := (tab T i hi).desc
  unfold descOk at hd
  rw [ht] at hd
  exact hd
theorem run_sizeOf_elem {e : TypeId} {t : Ty} {bytes : Nat} (h : elemOk P e t bytes) (w : World) : (sizeOf e).run P w = .ok t.size w := by
  obtain ⟨ei, z, h1, h2, _⟩ := h
  simp [sizeOf, typeInfo, h1, h2]

theorem rel_ptr {o : Nat} {t : Ty} {i : Nat} {p : List Nat} {v : Value} (h : ∃ b k, ((∃ n c, ι o = .slice (some ⟨b, k, none⟩) n c ∧ i < n) ∨ (ι o = .pointer (some ⟨b, 0, none⟩) ∧ i = 0 ∧ k = 0)) ∧ v = .pointer (some ⟨b, k + i * t.size + t.offAt p, none⟩) ∧ (t.at_ p).isSome) : (RV.ptr o t i p).rel φ ι w v := h
theorem rel_fptr {t : Ty} {x : t.den} {v : Value} (h : ∃ b o cs, v = .pointer (some ⟨b, o, none⟩) ∧ At φ w b o cs ∧ CR φ w t x cs) : (RV.fptr t x).rel φ ι w v := h
theorem rel_view {t : Ty} {o lo hi : Nat} {v : Value} (h : ∃ A n c A', ι o = .slice A n c ∧ lo ≤ hi ∧ hi ≤ n ∧ n ≤ c ∧ v = .slice A' (hi - lo) (c - lo) ∧ (c ≠ lo → A' = A.map (·.add (lo * t.size))) ∧ (c ≠ 0 → ∃ b k, A = some ⟨b, k, none⟩)) : (RV.view t o lo hi).rel φ ι w v := h
theorem rel_own {t : Ty} {o : Nat} {v : Value} (h : v = ι o ∧ ∃ A n c, v = .slice A n c) : (RV.own t o).rel φ ι w v := h
theorem rel_clip {t : Ty} {xs : List t.den} {v : Value} (h : ∃ A n, v = .slice A n n ∧ CR φ w (.list t) xs [v]) : (RV.clip t xs).rel φ ι w v := h
/-- What the machine does at the address of a struct. -/
theorem run_fieldAt (tab : TabOK P cx) {T : TypeId} {ti : TI} (hi : cx.ti T = some ti) (harr : ti.arr = false) (hagg : ti.ty.isAgg = true) {f : Nat} (hlt : f < ti.fields.length) (b o : Nat) :
    ∃ j, cx.ti ti.fields[f] = some j ∧ ti.ty.nth f = some j.ty ∧ (Instr.fieldAt T (.pointer (some ⟨b, o, none⟩)) f).run P w = .ok (.pointer (some ⟨b, o + ti.ty.offs f, none⟩)) w := by
  rcases chain_desc tab hi (List.getElem?_eq_getElem hlt) with ⟨_, fs, fd, hd, h1, h2, h3⟩ | ⟨h1, _⟩ | h1
  · obtain ⟨ho, j, hj, hnth, hsz⟩ := h3
    refine ⟨j, hj, hnth, ?_⟩
    have hso := run_sizeOfX (w := w) tab hj
    unfold Instr.fieldAt
    simp only [Sem.run_bind, run_underlying hd, Result.andThen_ok, h1, Instr.sureAddr, Sem.run_pure, fieldPlace, h2, hso]
    rw [if_neg (by omega)]
    simp [addr_add, ho]
  · rw [harr] at h1; cases h1
  · rw [hagg] at h1; cases h1
theorem sub_at {b o k s : Nat} {cs : List Value} (hat : At φ w b o cs) : At φ w b (o + k) ((cs.drop k).take s) := by
  intro j u hj
  rw [List.getElem?_take] at hj
  split at hj
  · rw [List.getElem?_drop] at hj
    have := hat _ u hj
    rwa [← Nat.add_assoc] at this
  · cases hj
theorem fieldAddrAct_sound [Env] (tab : TabOK P cx) {T : TypeId} {x : RV} {f : Nat} (e : (fieldAddrAct cx T x f).go H n = some (r, H', n')) (h : HRel φ ι w H) {vx : Value} (hx : x.rel φ ι w vx) (lx : ∀ i ∈ x.ids, (getOb H i).live = true) :
    Yld φ ι w H n r H' n' ((Instr.fieldAt T vx f).run P w) := by
  unfold fieldAddrAct at e
  split at e
  · rename_i ti hi
    have q := go_bif e
    clear e
    obtain ⟨hb, e⟩ := q
    simp only [Bool.and_eq_true, Bool.not_eq_true', Nat.blt_eq] at hb
    obtain ⟨⟨harr, hagg⟩, hlt⟩ := hb
    cases x <;> simp only [HM.go, reduceCtorEq] at e
    case ptr o t j p =>
      have q := go_bif e
      clear e
      obtain ⟨hT, e⟩ := q
      obtain ⟨rfl, rfl, rfl⟩ := go_ret e
      obtain ⟨i', hi', hat⟩ := isTyO_of hT
      rw [hi] at hi'
      injection hi' with hi'
      subst hi'
      obtain ⟨b, k, hb, rfl, hp⟩ := hx
      obtain ⟨j', hj', hnth, hrun⟩ := run_fieldAt (P := P) (w := w) tab hi harr hagg hlt b (k + j * t.size + t.offAt p)
      have e1 : ti.ty.offAt [f] = ti.ty.offs f := by simp [Ty.offAt, hnth]
      refine Yld.pure (r := .ptr o t j (p ++ [f])) h (rel_ptr ⟨b, k, hb, ?_, ?_⟩) (by simpa [RV.ids] using lx) hrun
      · rw [offAt_append hat, e1]; simp only [Nat.add_assoc]
      · rw [at_append, hat]; simp [Ty.at_, hnth]
    case fptr t v =>
      have q := go_bif e
      clear e
      obtain ⟨hT, e⟩ := q
      obtain ⟨i', hi', rfl⟩ := isTy_of hT
      rw [hi] at hi'
      injection hi' with hi'
      subst hi'
      obtain ⟨d, H1, n1, e1, e2⟩ := HM.go_bind_some e
      obtain ⟨hd, rfl, rfl⟩ := go_opt e1
      obtain ⟨rfl, rfl, rfl⟩ := go_ret e2
      obtain ⟨b, o, cs, rfl, hat, hc⟩ := hx
      obtain ⟨g1, g2⟩ := proj_cells hc hd
      obtain ⟨j', hj', hnth, hrun⟩ := run_fieldAt (P := P) (w := w) tab hi harr hagg hlt b o
      exact Yld.pure h (rel_fptr ⟨b, o + ti.ty.offs f, _, rfl, sub_at hat, g2⟩) (by simp [RV.ids]) hrun
  · simp [HM.go] at e
theorem fieldAct_sound [Env] (tab : TabOK P cx) {T : TypeId} {x : RV} {f : Nat} (e : (fieldAct cx T x f).go H n = some (r, H', n')) (h : HRel φ ι w H) {vx : Value} (hx : x.rel φ ι w vx) (lx : ∀ i ∈ x.ids, (getOb H i).live = true) :
    Yld φ ι w H n r H' n' ((Instr.field T vx f).run P w) := by
  unfold fieldAct at e
  split at e
  · rename_i ti hi
    have q := go_bif e
    clear e
    obtain ⟨hb, e⟩ := q
    simp only [Bool.and_eq_true, Bool.not_eq_true', Nat.blt_eq] at hb
    obtain ⟨⟨⟨harr, hagg⟩, hlt⟩, hf⟩ := hb
    obtain ⟨hc, rfl, rfl⟩ := go_opt e
    obtain ⟨u, vs, k1, k2, k3, k4, k5, k6⟩ := comp_sound hx hf hc
    have hv := (RV.rel_fits x ti.ty vx hx hf).2
    rw [hagg] at hv
    obtain ⟨cs, rfl⟩ := agg_of hv
    have hsz := (RV.rel_fits x ti.ty _ hx hf).1
    rcases chain_desc tab hi (List.getElem?_eq_getElem hlt) with ⟨_, fs, fd, hd, h1, h2, h3⟩ | ⟨h1, _⟩ | h1
    · obtain ⟨ho, j, hj, hnth, hsz'⟩ := h3
      rw [k1] at hnth
      injection hnth with hnth
      subst hnth
      have hle := nth_offs k1
      simp only [Value.cells] at hsz k4
      refine Yld.pure h k2 (fun i hi => lx i (k6 i hi)) ?_
      unfold Instr.field
      simp only [Sem.run_bind, run_underlying hd, Result.andThen_ok, h1, h2, asAgg, Sem.run_pure, part, run_isAggX tab hj]
      rw [val_eq k4 k5]
      unfold valOf
      by_cases ha : j.ty.isAgg = true
      · rw [if_pos ha, if_pos ha]
        simp only [Sem.run_bind, run_sizeOfX tab hj, Result.andThen_ok, Sem.run_pure]
        congr 2
        apply Array.ext'
        rw [Array.toList_extract, List.extract_eq_take_drop, ho]
        simp
      · simp only [Bool.not_eq_true] at ha
        have hs : j.ty.size = 1 := by cases h : j.ty <;> first | rfl | (rw [h] at ha; simp [Ty.isAgg] at ha)
        have hlt2 : ti.ty.offs f < cs.size := by rw [hsz]; omega
        rw [hs, ho]
        have e1 : (cs.toList.drop (ti.ty.offs f)).take 1 = [cs[ti.ty.offs f]] := by
          rw [List.drop_eq_getElem_cons (by simpa using hlt2)]
          simp
        simp [ha, Array.getElem?_eq_getElem hlt2, e1]
    · rw [harr] at h1; cases h1
    · rw [hagg] at h1; cases h1
  · simp [HM.go] at e
end
end Go.X
/- The engine, part K: indices, slices, lengths, conversions. -/
set_option linter.unusedVariables false
set_option linter.unusedSimpArgs false
namespace Go.X
open Go.RowKit

section
variable {P : Program} {cx : Cx} {φ : Phi} {ι : Nat → Value} {w : World} {H : List Ob} {n : Nat} {r : RV} {H' : List Ob} {n' : Nat}
theorem run_indexAt_slice {T e : TypeId} (hd : P.underlying T = some (.slice e)) {s : Nat} (hs : ∀ w, (sizeOf e).run P w = .ok s w) {a : Addr} {m c : Nat} {k : IntKind} {i : Int} (h0 : 0 ≤ i) (h1 : i < m) :
    (Instr.indexAt T (.slice (some a) m c) (.int k i)).run P w = .ok (.pointer (some (a.add (i.toNat * s)))) w := by
  unfold Instr.indexAt
  simp [asIntOf, run_underlying hd, hs, h0, h1]
theorem run_indexAt_array {T e : TypeId} {m : Nat} (hd : P.underlying T = some (.array m e)) {s : Nat} (hs : ∀ w, (sizeOf e).run P w = .ok s w) {a : Addr} {k : IntKind} {i : Int} (h0 : 0 ≤ i) (h1 : i < m) :
    (Instr.indexAt T (.pointer (some a)) (.int k i)).run P w = .ok (.pointer (some (a.add (i.toNat * s)))) w := by
  unfold Instr.indexAt
  simp [asIntOf, run_underlying hd, hs, h0, h1, Instr.sureAddr]
theorem go_chk2 {α : Type} {b : Bool} {x : HM α} {H : List Ob} {n : Nat} {r : α × List Ob × Nat} (e : (HM.chk b x).go H n = some r) : b = true ∧ x.go H n = some r := HM.go_chk e
theorem getD_get {α : Type} {xs : List α} {i : Nat} {d : α} (h : i < xs.length) : xs[i]? = some (xs.getD i d) := by
  rw [List.getD_eq_getElem?_getD, List.getElem?_eq_getElem h]; rfl
/-- The element of a slice of data: its address. -/
theorem elem_fptr {t : Ty} {xs : List t.den} {A : Option Addr} {m c : Nat} (h : CR φ w (.list t) xs [.slice A m c]) {i : Nat} (hi : i < xs.length) :
    ∃ a, A = some a ∧ m = xs.length ∧ (RV.fptr t (xs.getD i t.zero)).rel φ ι w (.pointer (some (a.add (i * t.size)))) := by
  obtain ⟨A', m', c', e, hl, hn, h⟩ := h
  injection e with e _
  obtain ⟨rfl, rfl, rfl⟩ := slice_inj e
  rcases h with h | ⟨b, o, ys, rfl, hat, hk⟩
  · omega
  · refine ⟨_, rfl, hl.symm, rel_fptr ⟨b, o + i * t.size, (ys.drop (i * t.size)).take t.size, by rw [addr_add], sub_at hat, ?_⟩⟩
    exact hk.get (fun x c => CR.len t x c) _ _ i _ (getD_get hi)
theorem run_sizeOf_list (tab : TabOK P cx) {T : TypeId} {i : TI} (hi : cx.ti T = some i) {t : Ty} (ht : i.ty = .list t) : P.underlying T = some (.slice i.elem) ∧ ∀ w, (sizeOf i.elem).run P w = .ok t.size w :=
  ⟨(list_desc tab hi ht).1, fun w => run_sizeOf_elem (list_desc tab hi ht).2 w⟩
theorem go_idxIn {α : Type} {k : Nat} {f : Nat → HM α} {H : List Ob} {m : Nat} {q : α × List Ob × Nat} : ∀ n, (idxIn k f n).go H m = some q → (f k).go H m = some q
  | 0, h => by simp [idxIn, HM.go] at h
  | n + 1, h => by
    unfold idxIn at h
    cases hb : Nat.beq k n
    · rw [hb] at h
      exact go_idxIn n (by simpa [HM.go] using h)
    · rw [hb] at h
      have : k = n := by simpa using hb
      subst this
      simpa [HM.go] using h
theorem indexAddrAct_sound [Env] (tab : TabOK P cx) {T : TypeId} {x : RV} {i : Int} (e : (indexAddrAct cx T x i).go H n = some (r, H', n')) (h : HRel φ ι w H) {vx : Value} (hx : x.rel φ ι w vx) (lx : ∀ i ∈ x.ids, (getOb H i).live = true) (k : IntKind) :
    Yld φ ι w H n r H' n' ((Instr.indexAt T vx (.int k i)).run P w) := by
  unfold indexAddrAct at e
  split at e
  · rename_i t o
    have q := go_bif e; clear e; obtain ⟨hT, e⟩ := q
    obtain ⟨ti, hti, hty⟩ := isTy_of hT
    obtain ⟨hd, hs⟩ := run_sizeOf_list tab hti hty
    simp only [HM.go] at e
    split at e
    · rename_i e0 u xs fz hm
      obtain ⟨fz', ho, rfl⟩ := mask_arr hm
      have q := go_bif e; clear e; obtain ⟨hu, e⟩ := q
      have hu : u = t := by simpa using hu
      subst hu
      have q := go_chk2 e; clear e; obtain ⟨hb, e⟩ := q
      simp only [Bool.and_eq_true, decide_eq_true_eq] at hb
      obtain ⟨rfl, rfl, rfl⟩ := go_ret e
      obtain ⟨rfl, _⟩ := hx
      have hro := h.obj o
      rw [ho] at hro
      obtain ⟨A, m, c, e1, e2, e3, e4, hh⟩ := hro
      rcases hh with hh | ⟨b, pre, cur, fr, rfl, _⟩
      · omega
      · rw [e1]
        refine Yld.pure (r := .ptr o u i.toNat []) h (rel_ptr ⟨b, pre.size, .inl ⟨m, c, e1, by omega⟩, rfl, rfl⟩) (by simpa [RV.ids] using lx) ?_
        rw [run_indexAt_slice hd hs hb.1 (by omega)]
        simp [addr_add, Ty.offAt]
    · simp [HM.go] at e
  · rename_i t o lo hi
    have q := go_bif e; clear e; obtain ⟨hT, e⟩ := q
    obtain ⟨ti, hti, hty⟩ := isTy_of hT
    obtain ⟨hd, hs⟩ := run_sizeOf_list tab hti hty
    have q := go_chk2 e; clear e; obtain ⟨hb, e⟩ := q
    simp only [Bool.and_eq_true, decide_eq_true_eq] at hb
    obtain ⟨rfl, rfl, rfl⟩ := go_ret e
    obtain ⟨A, m, c, A', e1, h1, h2, h3, rfl, hA, hB⟩ := hx
    obtain ⟨b, k0, rfl⟩ := hB (by omega)
    obtain rfl := hA (by omega)
    refine Yld.pure (r := .ptr o t (lo + i.toNat) []) (v := .pointer (some ⟨b, k0 + (lo + i.toNat) * t.size + t.offAt [], none⟩)) h (rel_ptr ⟨b, k0, .inl ⟨m, c, e1, by omega⟩, rfl, rfl⟩) (by simpa [RV.ids] using lx) ?_
    simp only [Option.map_some, addr_add]
    rw [run_indexAt_slice hd hs hb.1 hb.2]
    simp [addr_add, Ty.offAt, Nat.add_mul, Nat.add_assoc]
  · rename_i o t j p
    have q := go_bif e; clear e; obtain ⟨hT, e⟩ := q
    obtain ⟨ti, hti, hat⟩ := isTyO_of hT
    rw [hti] at e
    simp only at e
    have q := go_bif e; clear e; obtain ⟨harr, e⟩ := q
    simp only [Bool.and_eq_true] at harr
    have q := go_chk2 e; clear e; obtain ⟨hb, e⟩ := q
    simp only [Bool.and_eq_true, decide_eq_true_eq] at hb
    have q := go_idxIn _ e; clear e; have e := q; clear q
    obtain ⟨rfl, rfl, rfl⟩ := go_ret e
    obtain ⟨b, k0, hbb, rfl, hp⟩ := hx
    have hlt : i.toNat < ti.fields.length := by omega
    rcases chain_desc tab hti (List.getElem?_eq_getElem hlt) with ⟨h1, _⟩ | ⟨_, e0, ei, hd, hei, hue, ho, j', hj', hnth, _⟩ | h1
    · rw [harr.1] at h1; cases h1
    · refine Yld.pure (r := .ptr o t j (p ++ [i.toNat])) (v := .pointer (some ⟨b, k0 + j * t.size + t.offAt (p ++ [i.toNat]), none⟩)) h (rel_ptr ⟨b, k0, hbb, rfl, ?_⟩) (by simpa [RV.ids] using lx) ?_
      · rw [at_append, hat]; simp [Ty.at_, hnth]
      · rw [run_indexAt_array hd (s := ei.size) (fun w => by simp [sizeOf, typeInfo, hei]) hb.1 hb.2]
        rw [offAt_append hat]
        simp [addr_add, Ty.offAt, hnth, ← ho, Nat.add_assoc]
    · rw [harr.2] at h1; cases h1
  · rename_i t v
    have q := go_bif e; clear e; obtain ⟨hT, e⟩ := q
    obtain ⟨ti, hti, rfl⟩ := isTy_of hT
    rw [hti] at e
    simp only at e
    have q := go_bif e; clear e; obtain ⟨harr, e⟩ := q
    simp only [Bool.and_eq_true] at harr
    have q := go_chk2 e; clear e; obtain ⟨hb, e⟩ := q
    simp only [Bool.and_eq_true, decide_eq_true_eq] at hb
    have q := go_idxIn _ e; clear e; have e := q; clear q
    obtain ⟨d, H1, n1, e1, e2⟩ := HM.go_bind_some e
    obtain ⟨hdd, rfl, rfl⟩ := go_opt e1
    obtain ⟨rfl, rfl, rfl⟩ := go_ret e2
    obtain ⟨b, o, cs, rfl, hat, hc⟩ := hx
    obtain ⟨g1, g2⟩ := proj_cells hc hdd
    have hlt : i.toNat < ti.fields.length := by omega
    rcases chain_desc tab hti (List.getElem?_eq_getElem hlt) with ⟨h1, _⟩ | ⟨_, e0, ei, hd, hei, hue, ho, j', hj', hnth, _⟩ | h1
    · rw [harr.1] at h1; cases h1
    · refine Yld.pure (r := .fptr d.t d.x) h (rel_fptr ⟨b, o + ti.ty.offs i.toNat, _, rfl, sub_at hat, g2⟩) (by simp [RV.ids]) ?_
      rw [run_indexAt_array hd (s := ei.size) (fun w => by simp [sizeOf, typeInfo, hei]) hb.1 hb.2]
      simp [addr_add, ← ho]
    · rw [harr.2] at h1; cases h1
  · rename_i b off l
    split at e
    · rename_i ti hti
      have q := go_bif e; clear e; obtain ⟨harr, e⟩ := q
      simp only [Bool.and_eq_true] at harr
      have q := go_chk2 e; clear e; obtain ⟨hb, e⟩ := q
      simp only [Bool.and_eq_true, decide_eq_true_eq] at hb
      have q := go_idxIn _ e; clear e; have e := q; clear q
      obtain ⟨rfl, rfl, rfl⟩ := go_ret e
      obtain ⟨rfl, hat⟩ := hx
      have hlt : i.toNat < ti.fields.length := by omega
      rcases chain_desc tab hti (List.getElem?_eq_getElem hlt) with ⟨h1, _⟩ | ⟨_, e0, ei, hd, hei, hue, ho, j', hj', hnth, _⟩ | h1
      · rw [harr.1] at h1; cases h1
      · refine Yld.pure (r := .gp b (off + ti.ty.offs i.toNat) (l.drop (ti.ty.offs i.toNat))) (v := .pointer (some ⟨b, off + ti.ty.offs i.toNat, none⟩)) h ⟨rfl, ?_⟩ (by simp [RV.ids]) ?_
        · intro j v hj
          rw [List.map_drop, List.getElem?_drop] at hj
          have := hat _ v hj
          rwa [← Nat.add_assoc] at this
        · rw [run_indexAt_array hd (s := ei.size) (fun w => by simp [sizeOf, typeInfo, hei]) hb.1 hb.2]
          simp [addr_add, ← ho]
      · rw [harr.2] at h1; cases h1
    · simp [HM.go] at e
  · rename_i t xs
    have q := go_bif e; clear e; obtain ⟨hT, e⟩ := q
    obtain ⟨ti, hti, hty⟩ := isTy_of hT
    obtain ⟨hd, hs⟩ := run_sizeOf_list tab hti hty
    have q := go_chk2 e; clear e; obtain ⟨hb, e⟩ := q
    simp only [Bool.and_eq_true, decide_eq_true_eq] at hb
    obtain ⟨rfl, rfl, rfl⟩ := go_ret e
    obtain ⟨A, m, c, rfl, hrest⟩ := VR.list hx
    obtain ⟨a, rfl, rfl, hr⟩ := elem_fptr (ι := ι) (show CR φ w (.list t) xs [.slice A m c] from ⟨A, m, c, rfl, hrest⟩) (i := i.toNat) (by omega)
    exact Yld.pure h hr (by simp [RV.ids]) (run_indexAt_slice hd hs hb.1 hb.2)
  · rename_i t xs
    have q := go_bif e; clear e; obtain ⟨hT, e⟩ := q
    obtain ⟨ti, hti, hty⟩ := isTy_of hT
    obtain ⟨hd, hs⟩ := run_sizeOf_list tab hti hty
    have q := go_chk2 e; clear e; obtain ⟨hb, e⟩ := q
    simp only [Bool.and_eq_true, decide_eq_true_eq] at hb
    obtain ⟨rfl, rfl, rfl⟩ := go_ret e
    obtain ⟨A, m, rfl, hrest⟩ := hx
    obtain ⟨a, rfl, rfl, hr⟩ := elem_fptr (ι := ι) hrest (i := i.toNat) (by omega)
    exact Yld.pure h hr (by simp [RV.ids]) (run_indexAt_slice hd hs hb.1 hb.2)
  · simp [HM.go] at e
end
end Go.X
/- The engine, part L: bytes of strings, slices, lengths, conversions. -/
set_option linter.unusedVariables false
set_option linter.unusedSimpArgs false
namespace Go.X
open Go.RowKit

section
variable {P : Program} {cx : Cx} {φ : Phi} {ι : Nat → Value} {w : World} {H : List Ob} {n : Nat} {r : RV} {H' : List Ob} {n' : Nat}
theorem indexAct_sound [Env] (tab : TabOK P cx) {T : TypeId} {x : RV} {i : Int} (e : (indexAct cx T x i).go H n = some (r, H', n')) (h : HRel φ ι w H) {vx : Value} (hx : x.rel φ ι w vx) (k : IntKind) :
    Yld φ ι w H n r H' n' ((Instr.index T vx (.int k i)).run P w) := by
  unfold indexAct at e
  split at e
  · rename_i s
    have q := go_bif e; clear e; obtain ⟨hT, e⟩ := q
    obtain ⟨ti, hti, hty⟩ := isTy_of hT
    have hd := str_desc tab hti hty
    have q := go_chk2 e; clear e; obtain ⟨hb, e⟩ := q
    simp only [Bool.and_eq_true, decide_eq_true_eq] at hb
    obtain ⟨rfl, rfl, rfl⟩ := go_ret e
    obtain rfl := VR.str.1 hx
    refine Yld.plain h (Plain.int _ _) ?_
    have hlt : i.toNat < s.length := by omega
    have h1 : (⟨⟨s⟩⟩ : ByteArray)[i.toNat]? = some (s.getD i.toNat 0) := by
      have h2 : i.toNat < (⟨⟨s⟩⟩ : ByteArray).size := hlt
      rw [getElem?_pos (⟨⟨s⟩⟩ : ByteArray) i.toNat h2]
      rw [List.getD_eq_getElem?_getD, List.getElem?_eq_getElem hlt]
      rfl
    unfold Instr.index
    simp [asIntOf, run_underlying hd, hb.1, h1]
  · simp [HM.go] at e
/-- A bound, where there is one. -/
def OptInt : Option Value → Option Int → Prop
  | none, none => True
  | some v, some a => ∃ k, v = .int k a
  | _, _ => False
theorem run_sliceBounds {isSlice : Bool} {m c : Nat} {lo hi : Option Value} {l h : Option Int} (hl : OptInt lo l) (hh : OptInt hi h) (h0 : 0 ≤ l.getD 0) (h1 : l.getD 0 ≤ h.getD m) (h2 : h.getD m ≤ m) (h3 : m ≤ c) :
    (Instr.sliceBounds isSlice m c lo hi none).run P w = .ok ((l.getD 0).toNat, (h.getD m).toNat, c) w := by
  unfold Instr.sliceBounds Instr.sliceBound
  cases lo with
  | none =>
    cases l with
    | some a => exact hl.elim
    | none =>
      cases hi with
      | none =>
        cases h with
        | some a => exact hh.elim
        | none => simp
      | some v =>
        cases h with
        | none => exact hh.elim
        | some a =>
          obtain ⟨k, rfl⟩ := hh
          simp only [Option.getD_none, Option.getD_some] at h0 h1 h2
          have : a ≤ (c : Int) := by omega
          simp [asIntOf, h1, this]
  | some u =>
    cases l with
    | none => exact hl.elim
    | some b =>
      obtain ⟨k', rfl⟩ := hl
      simp only [Option.getD_some] at h0 h1 h2 ⊢
      cases hi with
      | none =>
        cases h with
        | some a => exact hh.elim
        | none =>
          simp only [Option.getD_none] at h1 h2 ⊢
          simp [asIntOf, h0, h1]
      | some v =>
        cases h with
        | none => exact hh.elim
        | some a =>
          obtain ⟨k, rfl⟩ := hh
          simp only [Option.getD_some] at h1 h2 ⊢
          have h4 : 0 ≤ a := by omega
          have h5 : a ≤ (c : Int) := by omega
          have h6 : max a 0 = a := by omega
          simp [asIntOf, h0, h4, h5, h6, h1]
theorem run_sliceBoundsM {m c : Nat} {lo : Option Value} {l : Option Int} {k k2 : IntKind} {a d : Int} (hl : OptInt lo l) (h0 : 0 ≤ l.getD 0) (h1 : l.getD 0 ≤ a) (h2 : a ≤ d) (h3 : d ≤ m) (h4 : m ≤ c) :
    (Instr.sliceBounds true m c lo (some (.int k a)) (some (.int k2 d))).run P w = .ok ((l.getD 0).toNat, a.toNat, d.toNat) w := by
  unfold Instr.sliceBounds Instr.sliceBound
  have h5 : 0 ≤ a := by omega
  have h6 : 0 ≤ d := by omega
  have h7 : d ≤ (c : Int) := by omega
  have h8 : max d 0 = d := by omega
  have h9 : max a 0 = a := by omega
  cases lo with
  | none =>
    cases l with
    | some a => exact hl.elim
    | none => simp [asIntOf, h5, h6, h7, h8, h9, h2]
  | some u =>
    cases l with
    | none => exact hl.elim
    | some b =>
      obtain ⟨k', rfl⟩ := hl
      simp only [Option.getD_some] at h0 h1 ⊢
      simp [asIntOf, h0, h5, h6, h7, h8, h9, h1, h2]
      try (intro hlt; omega)
/-- Beyond the length, up to the capacity. -/
theorem run_sliceBoundsW {m c : Nat} {lo hi : Option Value} {l h : Option Int} (hl : OptInt lo l) (hh : OptInt hi h) (h0 : 0 ≤ l.getD 0) (h1 : l.getD 0 ≤ h.getD (m : Int)) (h2 : h.getD (m : Int) ≤ (c : Int)) :
    (Instr.sliceBounds true m c lo hi none).run P w = .ok ((l.getD 0).toNat, (h.getD (m : Int)).toNat, c) w := by
  unfold Instr.sliceBounds Instr.sliceBound
  cases lo with
  | none =>
    cases l with
    | some a => exact hl.elim
    | none =>
      cases hi with
      | none =>
        cases h with
        | some a => exact hh.elim
        | none => simp
      | some v =>
        cases h with
        | none => exact hh.elim
        | some a =>
          obtain ⟨k, rfl⟩ := hh
          simp only [Option.getD_none, Option.getD_some] at h0 h1 h2
          have : a ≤ (c : Int) := by omega
          simp [asIntOf, h1, this]
  | some u =>
    cases l with
    | none => exact hl.elim
    | some b =>
      obtain ⟨k', rfl⟩ := hl
      simp only [Option.getD_some] at h0 h1 h2 ⊢
      cases hi with
      | none =>
        cases h with
        | some a => exact hh.elim
        | none =>
          simp only [Option.getD_none] at h1 h2 ⊢
          simp [asIntOf, h0, h1]
      | some v =>
        cases h with
        | none => exact hh.elim
        | some a =>
          obtain ⟨k, rfl⟩ := hh
          simp only [Option.getD_some] at h1 h2 ⊢
          have h4 : 0 ≤ a := by omega
          have h5 : a ≤ (c : Int) := by omega
          have h6 : max a 0 = a := by omega
          simp [asIntOf, h0, h4, h5, h6, h1]
theorem run_sliceBounds3 {m c : Nat} {lo : Option Value} {l : Option Int} {k k2 : IntKind} {a : Int} (hl : OptInt lo l) (h0 : 0 ≤ l.getD 0) (h1 : l.getD 0 ≤ a) (h2 : a ≤ m) (h3 : m ≤ c) :
    (Instr.sliceBounds true m c lo (some (.int k a)) (some (.int k2 a))).run P w = .ok ((l.getD 0).toNat, a.toNat, a.toNat) w := by
  unfold Instr.sliceBounds Instr.sliceBound
  have h4 : 0 ≤ a := by omega
  have h5 : a ≤ (c : Int) := by omega
  cases lo with
  | none =>
    cases l with
    | some a => exact hl.elim
    | none =>
      have h6 : max a 0 = a := by omega
      simp [asIntOf, h4, h5, h6]
  | some u =>
    cases l with
    | none => exact hl.elim
    | some b =>
      obtain ⟨k', rfl⟩ := hl
      simp only [Option.getD_some] at h0 h1 ⊢
      have h6 : max a 0 = a := by omega
      simp [asIntOf, h0, h4, h5, h6, h1]
      try (intro hlt; omega)
/-- A part of a slice of data. -/
theorem CR.part {t : Ty} {xs : List t.den} {A A' : Option Addr} {m c l h c' : Nat} (hc : CR φ w (.list t) xs [.slice A m c]) (h1 : l ≤ h) (h2 : h ≤ m) (h3 : h - l ≤ c') (hA : h ≠ l → A' = A.map (·.add (l * t.size))) :
    CR φ w (.list t) ((xs.take h).drop l) [.slice A' (h - l) c'] := by
  obtain ⟨A2, m2, c2, e, hl, hn, hh⟩ := hc
  injection e with e _
  obtain ⟨rfl, rfl, rfl⟩ := slice_inj e
  refine ⟨_, _, _, rfl, by simp [hl]; omega, h3, ?_⟩
  by_cases hz : h - l = 0
  · exact .inl hz
  · refine .inr ?_
    rcases hh with hh | ⟨b, o, ys, rfl, hat, hk⟩
    · omega
    · refine ⟨b, o + l * t.size, (ys.take (h * t.size)).drop (l * t.size), by rw [hA (by omega)]; simp [addr_add], ?_, (hk.take (fun x c => CR.len t x c) h).drop (fun x c => CR.len t x c) l⟩
      intro i v hi
      rw [List.getElem?_drop, List.getElem?_take] at hi
      split at hi
      · have := hat _ v hi
        rwa [← Nat.add_assoc] at this
      · cases hi
theorem run_sliceAt_slice {T e : TypeId} (hd : P.underlying T = some (.slice e)) {s : Nat} (hs : ∀ w, (sizeOf e).run P w = .ok s w) {A : Option Addr} {m c : Nat} {lo hi mx : Option Value} {l h c' : Nat}
    (hb : (Instr.sliceBounds true m c lo hi mx).run P w = .ok (l, h, c') w) :
    (Instr.sliceAt T (.slice A m c) lo hi mx).run P w = .ok (.slice (if c' = l then A else A.map (·.add (l * s))) (h - l) (c' - l)) w := by
  unfold Instr.sliceAt Instr.slice
  simp [run_underlying hd, hb, hs]
theorem sliceAct0_sound [Env] (tab : TabOK P cx) {T : TypeId} {x : RV} {lo hi mx : Option Int} (e : (sliceAct0 cx T x lo hi mx).go H n = some (r, H', n')) (h : HRel φ ι w H) {vx : Value} (hx : x.rel φ ι w vx) (lx : ∀ i ∈ x.ids, (getOb H i).live = true)
    {lv hv mv : Option Value} (hl : OptInt lv lo) (hh : OptInt hv hi) (hm : OptInt mv mx) :
    Yld φ ι w H n r H' n' ((Instr.sliceAt T vx lv hv mv).run P w) := by
  unfold sliceAct0 at e
  split at e
  · rename_i s
    cases mx with
    | some m => simp [HM.go] at e
    | none =>
      cases mv with
      | some v => exact hm.elim
      | none =>
        simp only at e
        have q := go_bif e; clear e; obtain ⟨hT, e⟩ := q
        obtain ⟨ti, hti, hty⟩ := isTy_of hT
        have hd := str_desc tab hti hty
        have q := go_chk2 e; clear e; obtain ⟨hb, e⟩ := q
        simp only [Bool.and_eq_true, decide_eq_true_eq] at hb
        obtain ⟨rfl, rfl, rfl⟩ := go_ret e
        obtain rfl := VR.str.1 hx
        refine Yld.plain h (Plain.str _) ?_
        have hbs := run_sliceBounds (P := P) (w := w) (isSlice := false) (c := s.length) hl hh hb.1.1 hb.1.2 hb.2 (Nat.le_refl _)
        have hsz : (⟨⟨s⟩⟩ : ByteArray).size = s.length := rfl
        unfold Instr.sliceAt Instr.slice
        simp only [Sem.run_bind, run_underlying hd, Result.andThen_ok, hsz, hbs, Option.isSome_none, Bool.false_eq_true, if_false, Sem.run_pure]
        congr 2
        apply ByteArray.ext
        apply Array.ext'
        simp [ByteArray.data_extract, List.extract_eq_take_drop, List.drop_take]
  · rename_i t o
    cases mx with
    | some mm =>
      cases hi with
      | none => simp [HM.go] at e
      | some a =>
        cases mv with
        | none => exact hm.elim
        | some v =>
          obtain ⟨k2, rfl⟩ := hm
          cases hv with
          | none => exact hh.elim
          | some v =>
            obtain ⟨k1, rfl⟩ := hh
            simp only at e
            have q := go_bif e; clear e; obtain ⟨hT, e⟩ := q
            obtain ⟨ti, hti, hty⟩ := isTy_of hT
            obtain ⟨hd, hs⟩ := run_sizeOf_list tab hti hty
            simp only [HM.go] at e
            split at e
            · rename_i e0 u xs fz hmk
              obtain ⟨fz', ho, rfl⟩ := mask_arr hmk
              have q := go_bif e; clear e; obtain ⟨hu, e⟩ := q
              have hu : u = t := by simpa using hu
              subst hu
              have q := go_chk2 e; clear e; obtain ⟨hb, e⟩ := q
              simp only [Bool.and_eq_true, decide_eq_true_eq] at hb
              obtain ⟨⟨⟨hb1, hb2⟩, hb3⟩, hb4⟩ := hb
              obtain ⟨rfl, rfl, rfl⟩ := go_ret e
              obtain ⟨rfl, _⟩ := hx
              have hro := h.obj o
              rw [ho] at hro
              obtain ⟨A, m, c, e1, e2, e3, e4, hh'⟩ := hro
              subst e2
              rw [e1]
              have hbs := run_sliceBoundsM (P := P) (w := w) (c := c) (k := k1) (k2 := k2) hl hb1 hb2 hb3 hb4 e3
              exact Yld.pure (r := .undef) h trivial (by simp [RV.ids]) (run_sliceAt_slice hd hs hbs)
            · simp [HM.go] at e
    | none =>
      cases mv with
      | some v => exact hm.elim
      | none =>
        simp only at e
        have q := go_bif e; clear e; obtain ⟨hT, e⟩ := q
        obtain ⟨ti, hti, hty⟩ := isTy_of hT
        obtain ⟨hd, hs⟩ := run_sizeOf_list tab hti hty
        simp only [HM.go] at e
        split at e
        · rename_i e0 u xs fz hmk
          obtain ⟨fz', ho, rfl⟩ := mask_arr hmk
          have q := go_bif e; clear e; obtain ⟨hu, e⟩ := q
          have hu : u = t := by simpa using hu
          subst hu
          have q := go_chk2 e; clear e; obtain ⟨hb, e⟩ := q
          simp only [Bool.and_eq_true, decide_eq_true_eq] at hb
          obtain ⟨rfl, rfl, rfl⟩ := go_ret e
          obtain ⟨rfl, _⟩ := hx
          have hro := h.obj o
          rw [ho] at hro
          obtain ⟨A, m, c, e1, e2, e3, e4, hh'⟩ := hro
          subst e2
          rw [e1]
          have hbs := run_sliceBounds (P := P) (w := w) (isSlice := true) (c := c) hl hh hb.1.1 hb.1.2 hb.2 e3
          refine Yld.pure (r := .view u o (lo.getD 0).toNat (hi.getD (xs.length : Int)).toNat) h (rel_view ⟨A, _, c, _, e1, by omega, by omega, e3, rfl, fun hne => by rw [if_neg hne], ?_⟩) (by simpa [RV.ids] using lx) (run_sliceAt_slice hd hs hbs)
          intro hc
          rcases hh' with hh' | ⟨b, pre, cur, fr, rfl, _⟩
          · exact absurd hh' hc
          · exact ⟨b, _, rfl⟩
        · simp [HM.go] at e
  · rename_i t o a z
    cases mx with
    | some m => simp [HM.go] at e
    | none =>
      cases mv with
      | some v => exact hm.elim
      | none =>
        simp only at e
        have q := go_bif e; clear e; obtain ⟨hT, e⟩ := q
        obtain ⟨ti, hti, hty⟩ := isTy_of hT
        obtain ⟨hd, hs⟩ := run_sizeOf_list tab hti hty
        simp only [HM.go] at e
        split at e
        case h_2 => simp [HM.go] at e
        rename_i e0 u xs fz hmk
        obtain ⟨fz', ho, rfl⟩ := mask_arr hmk
        have q := go_bif e; clear e; obtain ⟨hu, e⟩ := q
        have hu : u = t := by simpa using hu
        subst hu
        have q := go_chk2 e; clear e; obtain ⟨hb, e⟩ := q
        simp only [Bool.and_eq_true, decide_eq_true_eq] at hb
        obtain ⟨rfl, rfl, rfl⟩ := go_ret e
        obtain ⟨A, m, c, A', e1, h1, h2, h3, rfl, hA, hB⟩ := hx
        have hro := h.obj o
        rw [ho] at hro
        obtain ⟨A2, m2, c2, e1', e2, -⟩ := hro
        rw [e1] at e1'
        obtain ⟨rfl, rfl, rfl⟩ := slice_inj e1'
        have hbs := run_sliceBoundsW (P := P) (w := w) (m := z - a) (c := c - a) hl hh hb.1.1 hb.1.2 (by omega)
        refine Yld.pure (r := .view u o (a + (lo.getD 0).toNat) (a + (hi.getD ((z - a : Nat) : Int)).toNat)) h (rel_view ⟨A, m, c, if c - a = (lo.getD 0).toNat then A' else A'.map (·.add ((lo.getD 0).toNat * u.size)), e1, by omega, by omega, h3, ?_, ?_, hB⟩) (by simpa [RV.ids] using lx) (run_sliceAt_slice hd hs hbs)
        · congr 1 <;> omega
        · intro hne
          rw [if_neg (by omega), hA (by omega)]
          cases A with
          | none => rfl
          | some ad =>
            obtain ⟨b, k0, hb'⟩ := hB (by omega)
            injection hb' with hb'
            subst hb'
            simp [addr_add, Nat.add_mul, Nat.add_assoc]
  · rename_i e0 t
    cases mx with
    | some m => simp [HM.go] at e
    | none =>
      cases mv with
      | some v => exact hm.elim
      | none =>
        simp only at e
        have q := go_bif e; clear e; obtain ⟨hT, e⟩ := q
        obtain ⟨ti, hti, hty⟩ := isTy_of hT
        obtain ⟨hd, hs⟩ := run_sizeOf_list tab hti hty
        have q := go_chk2 e; clear e; obtain ⟨hb, e⟩ := q
        simp only [Bool.and_eq_true, decide_eq_true_eq] at hb
        obtain ⟨hb1, hb2⟩ := hb
        obtain ⟨rfl, rfl, rfl⟩ := go_ret e
        simp only [RV.rel] at hx
        subst hx
        have hb3 : hi.getD ((0 : Nat) : Int) = 0 := by simpa using hb2
        have hbs := run_sliceBounds (P := P) (w := w) (isSlice := true) (m := 0) (c := 0) hl hh (by omega) (by rw [hb1, hb3]; exact Int.le_refl _) (by rw [hb3]; exact Int.le_refl _) (Nat.le_refl _)
        rw [hb1, hb3] at hbs
        exact Yld.pure (r := .nils e0 t) (v := .slice none 0 0) h (by simp [RV.rel]) (by simp [RV.ids]) (by simpa using run_sliceAt_slice hd hs hbs)
  · obtain ⟨d, H1, n1, e1, e2⟩ := HM.go_bind_some e
    obtain ⟨rfl, φ', g, hvr⟩ := toDat_sound x φ vx H n d H1 n1 e1 h hx lx
    clear e
    split at e2
    · rename_i t xs
      have q := go_bif e2; clear e2; obtain ⟨hT, e2⟩ := q
      obtain ⟨ti, hti, hty⟩ := isTy_of hT
      obtain ⟨hd, hs⟩ := run_sizeOf_list tab hti hty
      obtain ⟨A, m, c, rfl, hlen, hmc, hrest⟩ := VR.list hvr
      have hcr : CR φ' w (.list t) xs [.slice A m c] := ⟨A, m, c, rfl, hlen, hmc, hrest⟩
      subst hlen
      cases mx with
      | none =>
        cases mv with
        | some v => exact hm.elim
        | none =>
          simp only at e2
          have q := go_chk2 e2; clear e2; obtain ⟨hb, e2⟩ := q
          simp only [Bool.and_eq_true, decide_eq_true_eq] at hb
          obtain ⟨rfl, rfl, rfl⟩ := go_ret e2
          have hbs := run_sliceBounds (P := P) (w := w) (isSlice := true) (c := c) hl hh hb.1.1 hb.1.2 hb.2 hmc
          have hmc' : List.length xs ≤ c := hmc
          have q1 : (lo.getD 0).toNat ≤ (hi.getD (List.length xs : Int)).toNat := by omega
          have q2 : (hi.getD (List.length xs : Int)).toNat ≤ List.length xs := by omega
          have hcp := CR.part (A' := if c = (lo.getD 0).toNat then A else A.map (·.add ((lo.getD 0).toNat * t.size))) (c' := c - (lo.getD 0).toNat) hcr q1 q2 (by omega) (fun hne => by rw [if_neg (by omega)])
          exact Yld.ghost g (rel_dat ⟨hcp, rfl⟩) (by simp [RV.ids]) (run_sliceAt_slice hd hs hbs)
      | some mm =>
        cases mv with
        | none => exact hm.elim
        | some v =>
          obtain ⟨k2, rfl⟩ := hm
          cases hi with
          | none => simp [HM.go] at e2
          | some a =>
            cases hv with
            | none => exact hh.elim
            | some v =>
              obtain ⟨k1, rfl⟩ := hh
              simp only at e2
              have q := go_chk2 e2; clear e2; obtain ⟨hb, e2⟩ := q
              simp only [Bool.and_eq_true, decide_eq_true_eq] at hb
              obtain ⟨⟨⟨hb1, hb2⟩, hb3⟩, rfl⟩ := hb
              obtain ⟨rfl, rfl, rfl⟩ := go_ret e2
              have hbs := run_sliceBounds3 (P := P) (w := w) (c := c) (k := k1) (k2 := k2) hl hb1 hb2 hb3 hmc
              have hmc' : List.length xs ≤ c := hmc
              have q1 : (lo.getD 0).toNat ≤ a.toNat := by omega
              have q2 : a.toNat ≤ List.length xs := by omega
              have hcp := CR.part (A' := if a.toNat = (lo.getD 0).toNat then A else A.map (·.add ((lo.getD 0).toNat * t.size))) (c' := a.toNat - (lo.getD 0).toNat) hcr q1 q2 (Nat.le_refl _) (fun hne => by rw [if_neg hne])
              exact Yld.ghost g (rel_clip ⟨_, _, rfl, hcp⟩) (by simp [RV.ids]) (run_sliceAt_slice hd hs hbs)
    · simp [HM.go] at e2
theorem sliceAct_sound [Env] (tab : TabOK P cx) {T : TypeId} {x : RV} {lo hi mx : Option Int} (e : (sliceAct cx T x lo hi mx).go H n = some (r, H', n')) (h : HRel φ ι w H) {vx : Value} (hx : x.rel φ ι w vx) (lx : ∀ i ∈ x.ids, (getOb H i).live = true)
    {lv hv mv : Option Value} (hl : OptInt lv lo) (hh : OptInt hv hi) (hm : OptInt mv mx) :
    Yld φ ι w H n r H' n' ((Instr.sliceAt T vx lv hv mv).run P w) := by
  unfold sliceAct at e
  split at e
  · rename_i t xs a
    have q := go_bif e; clear e; obtain ⟨hT, e⟩ := q
    obtain ⟨ti, hti, hty⟩ := isTy_of hT
    obtain ⟨hd, hs⟩ := run_sizeOf_list tab hti hty
    have q := go_chk2 e; clear e; obtain ⟨hb, e⟩ := q
    simp only [Bool.and_eq_true, decide_eq_true_eq] at hb
    obtain ⟨rfl, rfl, rfl⟩ := go_ret e
    obtain ⟨A, m, rfl, hcr⟩ := hx
    have hlen : xs.length = m := by
      obtain ⟨A2, m2, c2, e1, hl, _⟩ := hcr
      injection e1 with e1 _
      obtain ⟨rfl, rfl, rfl⟩ := slice_inj e1
      exact hl
    subst hlen
    cases mv with
    | some v => exact hm.elim
    | none =>
      have hbs := run_sliceBounds (P := P) (w := w) (isSlice := true) (m := xs.length) (c := xs.length) hl hh (by simp) (by simpa using hb.1) (by simpa using hb.2) (Nat.le_refl _)
      have q2 : a.toNat ≤ List.length xs := by have := hb.2; omega
      have hcp := CR.part (A' := if xs.length = 0 then A else A.map (·.add (0 * t.size))) (l := 0) (h := a.toNat) (c' := xs.length) hcr (Nat.zero_le _) q2 (by omega) (fun hne => by rw [if_neg (by omega)])
      simp only [List.drop_zero, Nat.sub_zero] at hcp
      have hrun := run_sliceAt_slice (A := A) hd hs hbs
      simp only [Option.getD_none, Option.getD_some, Int.toNat_zero, Nat.sub_zero] at hrun
      exact Yld.pure (r := .lim t (xs.take a.toNat) xs.length) h (show RV.rel φ ι w (.lim t (xs.take a.toNat) xs.length) _ from ⟨_, _, rfl, hcp⟩) (by simp [RV.ids]) hrun
  · exact sliceAct0_sound tab e h hx lx hl hh hm
end
end Go.X
/- The engine, part M: objects that are made, written, moved. -/
set_option linter.unusedVariables false
set_option linter.unusedSimpArgs false
namespace Go.X
open Go.RowKit

section
variable {P : Program} {cx : Cx} {φ : Phi} {ι ι' : Nat → Value} {w w' : World} {H H' : List Ob} {n : Nat}
theorem owned_lt [Env] (h : HRel φ ι w H) {o b : Nat} (ho : (getOb H o).owns = true) (hb : blk (ι o) = some b) : b < w.heap.size := by
  have hr := h.obj o
  cases hob : getOb H o with
  | arr e t xs fz =>
    rw [hob] at hr
    obtain ⟨n, c, pre, cur, fr, _, _, _, _, _, h1, _⟩ := hr.blk_arr hb
    exact (Array.getElem?_eq_some_iff.1 h1).1
  | box T t r =>
    rw [hob] at hr
    obtain ⟨b', cur, fr, v, e1, h1, _⟩ := hr
    rw [e1] at hb
    have : b' = b := by simpa [blk] using hb
    subst this
    exact (Array.getElem?_eq_some_iff.1 h1).1
  | iter s pos =>
    rw [hob] at hr
    obtain ⟨b', n, e1, h1, _⟩ := hr
    rw [e1] at hb
    have : b' = b := by simpa [blk] using hb
    subst this
    exact (Array.getElem?_eq_some_iff.1 h1).1
  | loop Y R p =>
    rw [hob] at hr
    obtain ⟨l, rec, c, e1, h1⟩ := hr
    rw [e1] at hb
    have : l = b := by simpa [blk] using hb
    subst this
    exact (Array.getElem?_eq_some_iff.1 h1.heap).1
  | hole => rw [hob] at ho; cases ho
  | gone => rw [hob] at ho; cases ho
theorem phi_lt [Env] (h : HRel φ ι w H) {b k : Nat} (hb : φ b k) : b < w.heap.size := by
  obtain ⟨v, hv⟩ := h.phi b k hb
  exact World.block_lt_of_cell? w _ hv
theorem HRel.update [Env] (h : HRel φ ι w H) (C : Nat → Prop) (hk : ∀ i, ¬ C i → getOb H' i = getOb H i) (hi : ∀ i, (getOb H i).live = true → ι' i = ι i) (hl : ∀ i, (getOb H i).live = true → (getOb H' i).live = true)
    (hc : ∀ i, C i → ORel φ ι' w' i (getOb H' i)) (hci : ∀ i, C i → ∀ j ∈ (getOb H' i).ids, (getOb H' j).live = true)
    (hw : ∀ i b, ¬ C i → (getOb H i).owns = true → blk (ι i) = some b → w'.heap[b]? = w.heap[b]?) (hφ : ∀ b k, φ b k → w'.cell? ⟨b, k, none⟩ = w.cell? ⟨b, k, none⟩)
    (hap : ∀ i j b, C i → (getOb H' i).owns = true → (getOb H' j).owns = true → blk (ι' i) = some b → blk (ι' j) = some b → i = j) : HRel φ ι' w' H' := by
  have hlo : ∀ i, (getOb H i).owns = true → (getOb H i).live = true := fun i ho => by cases hob : getOb H i <;> rw [hob] at ho <;> first | rfl | (cases ho)
  refine ⟨fun i => ?_, fun i j b hio hjo h1 h2 => ?_, fun b k hb => ?_, fun i j hj => ?_, fun g => (h.glob g).mono (fun _ _ h => h) hφ⟩
  · by_cases hC : C i
    · exact hc i hC
    · rw [hk i hC]
      refine (h.obj i).keep (fun _ _ h => h) hφ (hi i) (fun j hj => hi j (h.ids i j hj)) fun b ho hb => ⟨hw i b hC ho hb, fun _ h => h⟩
  · by_cases hC : C i
    · exact hap i j b hC hio hjo h1 h2
    · by_cases hC2 : C j
      · exact (hap j i b hC2 hjo hio h2 h1).symm
      · rw [hk i hC] at hio
        rw [hk j hC2] at hjo
        rw [hi i (hlo i hio)] at h1
        rw [hi j (hlo j hjo)] at h2
        exact h.apart i j b hio hjo h1 h2
  · rw [hφ b k hb]; exact h.phi b k hb
  · by_cases hC : C i
    · exact hci i hC j hj
    · rw [hk i hC] at hj
      exact hl j (h.ids i j hj)
def updI (ι : Nat → Value) (n : Nat) (v : Value) : Nat → Value := fun i => if i = n then v else ι i
/-- The world has grown by new blocks alone. -/
structure Grew (w w' : World) : Prop where
  os : w'.os = w.os
  tape : w'.tape = w.tape
  output : w'.output = w.output
  size : w.heap.size ≤ w'.heap.size
  blocks : ∀ b, b < w.heap.size → w'.heap[b]? = w.heap[b]?
theorem Grew.cell (g : Grew w w') {b k : Nat} (hb : b < w.heap.size) : w'.cell? ⟨b, k, none⟩ = w.cell? ⟨b, k, none⟩ := by simp [World.cell?, g.blocks b hb]
theorem Grew.alloc (w : World) (o : Obj) : Grew w (w.alloc o) := ⟨rfl, rfl, rfl, by simp, fun b hb => Below.heap_alloc w o b hb⟩
theorem Grew.drew_alloc (w : World) (o : Obj) : Grew w (w.drew.alloc o) := ⟨rfl, rfl, rfl, by simp, fun b hb => Below.heap_alloc w.drew o b hb⟩
theorem newOb [Env] (h : HRel φ ι w H) (hn : n ≤ H.length) (hf : (getOb H n).live = false) (g : Grew w w') {v : Value} {ob : Ob} (hob : ORel φ (updI ι n v) w' n ob) (hids : ∀ i ∈ ob.ids, (getOb H i).live = true) (hlv : ob.live = true)
    (hblk : ∀ b, blk v = some b → w.heap.size ≤ b) :
    HRel φ (updI ι n v) w' (putOb H n ob) ∧ Step φ ι w H φ (updI ι n v) w' (putOb H n ob) ∧ Keep ι H (updI ι n v) (putOb H n ob) ∧ Nx H n (putOb H n ob) (n + 1) := by
  have hget : ∀ i, getOb (putOb H n ob) i = if i = n then ob else getOb H i := fun i => getOb_put H n ob i hn
  have hne : ∀ i, (getOb H i).live = true → i ≠ n := fun i hi e => by subst e; rw [hf] at hi; cases hi
  have hlo : ∀ i, (getOb H i).owns = true → (getOb H i).live = true := fun i ho => by cases hob : getOb H i <;> rw [hob] at ho <;> first | rfl | (cases ho)
  have hi : ∀ i, (getOb H i).live = true → updI ι n v i = ι i := fun i hi => by simp [updI, hne i hi]
  have hl : ∀ i, (getOb H i).live = true → (getOb (putOb H n ob) i).live = true := fun i h => by rw [hget, if_neg (hne i h)]; exact h
  have hφ : ∀ b k, φ b k → w'.cell? ⟨b, k, none⟩ = w.cell? ⟨b, k, none⟩ := fun b k hb => g.cell (phi_lt h hb)
  refine ⟨h.update (fun i => i = n) (fun i hC => by rw [hget, if_neg hC]) hi hl ?_ ?_ (fun i b _ ho hb => g.blocks b (owned_lt h ho hb)) hφ ?_, ?_, ⟨hi, hl⟩, ?_⟩
  · rintro i rfl; rw [hget, if_pos rfl]; exact hob
  · rintro i rfl j hj
    rw [hget, if_pos rfl] at hj
    exact hl j (hids j hj)
  · rintro i j b rfl h1 h2 h3 h4
    by_cases hj : j = i
    · exact hj.symm
    · rw [hget, if_neg hj] at h2
      rw [hi j (hlo j h2)] at h4
      have := owned_lt h h2 h4
      have := hblk b (by simpa [updI] using h3)
      omega
  · refine ⟨fun _ _ h => h, hφ, fun _ _ h => .inl h, g.size, g.os, g.tape, g.output, fun b hb _ => g.blocks b hb, fun b hb => ?_⟩
    obtain ⟨o, h1, h2⟩ := hb
    rw [hget] at h1
    split at h1
    · rename_i e; subst e; exact .inl (hblk b (by simpa [updI] using h2))
    · rename_i e; exact .inr ⟨o, h1, by simpa [updI, e] using h2⟩
  · refine ⟨by omega, ?_, fun h => ?_, fun i hi => by rw [hget, if_neg (by omega)], fun h => ?_⟩
    · rcases Nat.lt_or_ge n H.length with h1 | h1
      · rw [putOb_len H n ob h1]; exact Nat.le_refl _
      · have : n = H.length := by omega
        subst this; rw [putOb_len']; omega
    · rcases Nat.lt_or_ge n H.length with h1 | h1
      · rw [putOb_len H n ob h1]; exact h1
      · have : n = H.length := by omega
        subst this; rw [putOb_len']; exact Nat.le_refl _
    · subst h; rw [putOb_len']
/-- One of the call's own blocks has been written. -/
structure Wrote (w w' : World) (b : Nat) : Prop where
  os : w'.os = w.os
  tape : w'.tape = w.tape
  output : w'.output = w.output
  size : w'.heap.size = w.heap.size
  blocks : ∀ k, k ≠ b → w'.heap[k]? = w.heap[k]?
theorem Wrote.refl (w : World) (b : Nat) : Wrote w w b := ⟨rfl, rfl, rfl, rfl, fun _ _ => rfl⟩
theorem Wrote.trans {w'' : World} {b : Nat} (g : Wrote w w' b) (k : Wrote w' w'' b) : Wrote w w'' b :=
  ⟨k.os.trans g.os, k.tape.trans g.tape, k.output.trans g.output, k.size.trans g.size, fun i hi => (k.blocks i hi).trans (g.blocks i hi)⟩
theorem Wrote.cell {b : Nat} (g : Wrote w w' b) {c k : Nat} (hb : c ≠ b) : w'.cell? ⟨c, k, none⟩ = w.cell? ⟨c, k, none⟩ := by simp [World.cell?, g.blocks c hb]
theorem modOb [Env] (h : HRel φ ι w H) {o b : Nat} (ho : (getOb H o).owns = true) (hb : blk (ι o) = some b) (g : Wrote w w' b) (hφ : ∀ k, ¬ φ b k) {ob : Ob} (hob : ORel φ ι w' o ob) (hids : ∀ i ∈ ob.ids, (getOb H i).live = true) (hlv : ob.owns = true) :
    HRel φ ι w' (putOb H o ob) ∧ Step φ ι w H φ ι w' (putOb H o ob) ∧ Keep ι H ι (putOb H o ob) ∧ Nx H n (putOb H o ob) n := by
  have hlo : ∀ i, (getOb H i).owns = true → (getOb H i).live = true := fun i ho => by cases hob : getOb H i <;> rw [hob] at ho <;> first | rfl | (cases ho)
  have hlt := lt_of_live (hlo o ho)
  have hget : ∀ i, getOb (putOb H o ob) i = if i = o then ob else getOb H i := fun i => getOb_put H o ob i (Nat.le_of_lt hlt)
  have hlv2 : ob.live = true := by cases ob <;> first | rfl | (cases hlv)
  have hl' : ∀ i, (getOb (putOb H o ob) i).live = (getOb H i).live := fun i => by
    rw [hget]; split
    · rename_i e; subst e; rw [hlv2, hlo i ho]
    · rfl
  have hl : ∀ i, (getOb H i).live = true → (getOb (putOb H o ob) i).live = true := fun i h => by rw [hl']; exact h
  have hφ' : ∀ c k, φ c k → w'.cell? ⟨c, k, none⟩ = w.cell? ⟨c, k, none⟩ := fun c k hc => g.cell (fun e => hφ k (e ▸ hc))
  refine ⟨h.update (fun i => i = o) (fun i hC => by rw [hget, if_neg hC]) (fun _ _ => rfl) hl ?_ ?_ (fun i c hC hio hc => g.blocks c ?_) hφ' ?_, ?_, ⟨fun _ _ => rfl, hl⟩, ?_⟩
  · rintro i rfl; rw [hget, if_pos rfl]; exact hob
  · rintro i rfl j hj
    rw [hget, if_pos rfl] at hj
    exact hl j (hids j hj)
  · rintro rfl; exact hC (h.apart i o c hio ho hc hb)
  · rintro i j c rfl h1 h2 h3 h4
    by_cases hj : j = i
    · exact hj.symm
    · rw [hget, if_neg hj] at h2
      exact h.apart i j c ho h2 h3 h4
  · refine ⟨fun _ _ h => h, hφ', fun _ _ h => .inl h, by rw [g.size]; exact Nat.le_refl _, g.os, g.tape, g.output, fun c hc hn => g.blocks c (fun e => hn ⟨o, ho, e ▸ hb⟩), fun c hc => ?_⟩
    obtain ⟨i, h1, h2⟩ := hc
    rw [hget] at h1
    split at h1
    · rename_i e; subst e; exact .inr ⟨i, ho, h2⟩
    · exact .inr ⟨i, h1, h2⟩
  · exact ⟨Nat.le_refl _, by rw [putOb_len H o ob hlt]; exact Nat.le_refl _, fun h => by rw [putOb_len H o ob hlt]; exact h, fun i _ => hl' i, fun h => by rw [putOb_len H o ob hlt, h]⟩
/-- Stores into a block. -/
theorem splice_pre (pre cur : Array Value) (news : List Value) (a l : Nat) : ((pre ++ cur).toList.take (pre.size + a) ++ news ++ (pre ++ cur).toList.drop (pre.size + a + l)).toArray = pre ++ (cur.toList.take a ++ news ++ cur.toList.drop (a + l)).toArray := by
  apply Array.ext'
  have h1 : (pre ++ cur).toList.take (pre.size + a) = pre.toList ++ cur.toList.take a := by
    rw [Array.toList_append, show pre.size = pre.toList.length by simp, List.take_length_add_append]
  have h2 : (pre ++ cur).toList.drop (pre.size + a + l) = cur.toList.drop (a + l) := by
    rw [Array.toList_append, show pre.size + a + l = pre.toList.length + (a + l) by simp; omega, ← List.drop_drop, List.drop_left]
  rw [h1, h2]
  simp
theorem pre_get (pre cur : Array Value) (k : Nat) : (pre ++ cur)[pre.size + k]? = cur[k]? := by
  rw [Array.getElem?_append_right (by omega), show pre.size + k - pre.size = k by omega]
theorem pre_drop (pre cur : Array Value) (k : Nat) : (pre ++ cur).toList.drop (pre.size + k) = cur.toList.drop k := by
  rw [Array.toList_append, show pre.size + k = pre.toList.length + k by simp, ← List.drop_drop, List.drop_left]
theorem run_storeCellsX (P : Program) {b : Nat} {e : TypeId} {fr : Nat × Nat} (o : Nat) : ∀ (vs : List Value) (i : Nat) (cur : Array Value) (w : World), w.heap[b]? = some (.cells cur e fr) → frOk fr cur.size → o + i + vs.length ≤ cur.size → (∀ v ∈ vs, v.oneCell' = true) →
    ∃ w', (storeCells ⟨b, o, none⟩ vs i).run P w = .ok () w' ∧ w'.heap[b]? = some (.cells (cur.toList.take (o + i) ++ vs ++ cur.toList.drop (o + i + vs.length)).toArray e fr) ∧ Wrote w w' b
  | [], i, cur, w, hb, hf, hl, h1 => ⟨w, rfl, by simp [hb], Wrote.refl w b⟩
  | v :: r, i, cur, w, hb, hf, hl, h1 => by
    simp only [List.length_cons] at hl
    have hlt : o + i < cur.size := by omega
    have hc : w.cell? ⟨b, o + i, none⟩ = some cur[o + i] := by rw [cell_of_heap hb, Array.getElem?_eq_getElem hlt]
    have hz : w.frozen? ⟨b, o + i, none⟩ = false := by
      have := hf (o + i) hlt
      simp only [World.frozen?, hb]
      simp only [Bool.and_eq_false_iff, decide_eq_false_iff_not]
      omega
    have hst : (store ((⟨b, o, none⟩ : Addr).add i) v).run P w = .ok () (w.setCell ⟨b, o + i, none⟩ v) := by
      rw [addr_add, run_store P w _ v _ (h1 v (by simp)), hc]
      simp [hz]
    have hb1 : (w.setCell ⟨b, o + i, none⟩ v).heap[b]? = some (.cells (cur.setIfInBounds (o + i) v) e fr) := by
      simp only [World.setCell, Array.getElem?_modify, hb, if_pos, Option.map_some]
      simp
    have hw1 : Wrote w (w.setCell ⟨b, o + i, none⟩ v) b := ⟨rfl, rfl, rfl, by simp [World.setCell], fun k hk => Below.heap_setCell w _ v k hk⟩
    obtain ⟨w', h2, h3, h4⟩ := run_storeCellsX P o r (i + 1) (cur.setIfInBounds (o + i) v) (w.setCell ⟨b, o + i, none⟩ v) hb1 (by simpa using hf) (by simp; omega) (fun x hx => h1 x (by simp [hx]))
    refine ⟨w', ?_, ?_, hw1.trans h4⟩
    · simp only [storeCells, Sem.run_bind, hst, Result.andThen_ok, h2]
    · rw [h3]
      congr 2
      apply Array.ext'
      simp only [Array.toList_setIfInBounds, List.length_cons]
      have hlt' : o + i < cur.toList.length := by simpa using hlt
      rw [show o + (i + 1) = o + i + 1 by omega, List.take_set, List.drop_set_of_lt (by omega), List.take_succ_eq_append_getElem hlt']
      have hlen : (cur.toList.take (o + i)).length = o + i := by simp; omega
      rw [List.set_append_right _ _ (by omega), hlen]
      simp [show o + i + 1 + r.length = o + i + (r.length + 1) by omega]
end
end Go.X
/- The engine, part N: variables, structs and slices that are made. -/
set_option linter.unusedVariables false
set_option linter.unusedSimpArgs false
namespace Go.X
open Go.RowKit

section
variable {P : Program} {cx : Cx} {φ : Phi} {ι ι' : Nat → Value} {w w' : World} {H : List Ob} {n : Nat} {r : RV} {H' : List Ob} {n' : Nat}
mutual
theorem RV.rel_one : ∀ (r : RV) (t : Ty) (v : Value), r.rel φ ι w v → r.fits t = true → ∀ u ∈ v.cells.toList, u.oneCell' = true
  | .dat u x, t, v, h, hf => h.1.one _ _ _
  | .nils _ u, t, v, h, hf => by
    simp only [RV.rel] at h
    subst h
    intro u hu; simp [Value.cells] at hu; subst hu; rfl
  | .own u o, t, v, h, hf => by
    obtain ⟨_, A, n, c, rfl⟩ := h
    intro u hu; simp [Value.cells] at hu; subst hu; rfl
  | .agg l, t, v, h, hf => by
    obtain ⟨cs, rfl, h⟩ := h
    exact RV.relL_one l t cs.toList h (by simpa [RV.fits] using hf)
  | .ptr o u i p, t, v, h, hf => by
    obtain ⟨b, _, _, rfl, _⟩ := h
    intro u hu; simp [Value.cells] at hu; subst hu; rfl
  | .fptr u x, t, v, h, hf => by
    obtain ⟨b, o, cs, rfl, _⟩ := h
    intro u hu; simp [Value.cells] at hu; subst hu; rfl
  | .fn f a b, t, v, h, hf => by
    obtain ⟨x, y, rfl, _⟩ := h
    intro u hu; simp [Value.cells] at hu; subst hu; rfl
  | .iface T r, t, v, h, hf => by
    obtain ⟨u, rfl, _⟩ := h
    intro u hu; simp [Value.cells] at hu; subst hu; rfl
  | .nilI, t, v, h, hf => by
    simp only [RV.rel] at h
    subst h
    intro u hu; simp [Value.cells] at hu; subst hu; rfl
  | .nilF, t, v, h, hf => by
    simp only [RV.rel] at h
    subst h
    intro u hu; simp [Value.cells] at hu; subst hu; rfl
  | .nilP, t, v, h, hf => by
    simp only [RV.rel] at h
    subst h
    intro u hu; simp [Value.cells] at hu; subst hu; rfl
  | .undef, _, _, _, hf => by simp [RV.fits] at hf
  | .atl _, _, _, _, hf => by simp [RV.fits] at hf
  | .lim .., _, _, _, hf => by simp [RV.fits] at hf
  | .yld Y o, t, v, h, hf => by
    obtain ⟨_, l, rfl⟩ := h
    intro u hu; simp [Value.cells] at hu; subst hu; rfl
  | .gp .., _, _, _, hf => by simp [RV.fits] at hf
  | .dfr .., _, _, _, hf => by simp [RV.fits] at hf
  | .clip .., _, _, _, hf => by simp [RV.fits] at hf
  | .nilv, _, _, _, hf => by simp [RV.fits] at hf
  | .view .., _, _, _, hf => by simp [RV.fits] at hf
  | .tup _, _, _, _, hf => by simp [RV.fits] at hf
theorem RV.relL_one : ∀ (l : List RV) (t : Ty) (cs : List Value), RV.relL φ ι w l cs → RV.fitsL l t = true → ∀ u ∈ cs, u.oneCell' = true
  | [], t, cs, h, hf => by
    simp only [RV.relL] at h
    subst h
    simp
  | r :: l, t, cs, ⟨v, c2, e, h1, h2⟩, hf => by
    subst e
    cases t with
    | pair a b =>
      simp only [RV.fitsL, Bool.and_eq_true] at hf
      intro u hu
      rcases List.mem_append.1 hu with hu | hu
      · exact RV.rel_one r a v h1 hf.1 u hu
      · exact RV.relL_one l b c2 h2 hf.2 u hu
    | _ => simp [RV.fitsL] at hf
end
theorem typ_rel {T : TypeId} {v : Value} (h : r.rel φ ι w v) : (cx.typ T r).rel φ ι w v := by
  unfold Cx.typ
  split
  · split
    · split
      · exact h
      · trivial
    · trivial
  · exact h
theorem typ_ids {T : TypeId} : ∀ i ∈ (cx.typ T r).ids, i ∈ r.ids := by
  unfold Cx.typ
  split
  · split
    · split <;> simp [RV.ids]
    · simp [RV.ids]
  · exact fun _ h => h
theorem boxed_sound [Env] {x : RV} (e : (boxed x).go H n = some (r, H', n')) (h : HRel φ ι w H) {v : Value} (hx : x.rel φ ι w v) (lx : ∀ i ∈ x.ids, (getOb H i).live = true) :
    n' = n ∧ ∃ φ', Ghost φ ι w H φ' H' ∧ r.rel φ' ι w v ∧ ∀ i ∈ r.ids, (getOb H' i).live = true := by
  unfold boxed at e
  split at e
  · obtain ⟨d, H1, n1, e1, e2⟩ := HM.go_bind_some e
    obtain ⟨rfl, rfl, rfl⟩ := go_ret e2
    obtain ⟨hn, φ', g, hv⟩ := toDat_sound _ φ v H n d H' n' e1 h hx lx
    exact ⟨hn, φ', g, rel_dat hv, by simp [RV.ids]⟩
  · obtain ⟨rfl, rfl, rfl⟩ := go_ret e
    obtain ⟨A, m, rfl, hc⟩ := hx
    exact ⟨rfl, φ, Ghost.refl h, rel_dat ⟨hc, rfl⟩, by simp [RV.ids]⟩
  · obtain ⟨rfl, rfl, rfl⟩ := go_ret e
    exact ⟨rfl, φ, Ghost.refl h, hx, lx⟩
theorem frOk_zero (m : Nat) : frOk (0, 0) m := fun k _ h => by omega
theorem frA_zero (t : Ty) (m : Nat) : frA t (0, 0) m := ⟨frOk_zero m, .inr (by simp)⟩
/-- What is free of names stays free. -/
def Free (H : List Ob) (n n' : Nat) : Prop := n ≤ H.length ∧ ∀ i, n ≤ i → i < n' → (getOb H i).live = false
theorem Free.ghost [Env] {φ' : Phi} (f : Free H n n') (g : Ghost φ ι w H φ' H') : Free H' n n' := ⟨by rw [g.len]; exact f.1, fun i h1 h2 => by rw [g.live]; exact f.2 i h1 h2⟩
theorem run_newVar (T : TypeId) (v : Value) : (newVar T v).run P w = .ok ⟨w.heap.size, 0, none⟩ (w.alloc (.cells v.cells T)) := by simp [newVar, newRow]
/-- A new variable. -/
theorem newBox [Env] (h : HRel φ ι w H) {T : TypeId} {t : Ty} {v : Value} (hr : r.rel φ ι w v) (hf : r.fits t = true) (hl : ∀ i ∈ r.ids, (getOb H i).live = true) (hn : n ≤ H.length) (hfree : (getOb H n).live = false) (ht : (t.at_ []).isSome = true) :
    Yld φ ι w H n (.ptr n t 0 []) (putOb H n (.box T t r)) (n + 1) (.ok (.pointer (some ⟨w.heap.size, 0, none⟩)) (w.alloc (.cells v.cells T))) := by
  obtain ⟨hsz, _⟩ := RV.rel_fits r t v hr hf
  have hne : ∀ i ∈ r.ids, i ≠ n := fun i hi e => by have := hl i hi; rw [e, hfree] at this; cases this
  have g := Grew.alloc w (.cells v.cells T)
  have hb : (w.alloc (.cells v.cells T)).heap[w.heap.size]? = some (.cells v.cells T (0, 0)) := heap_alloc_new w _
  have hr' : r.rel φ (updI ι n (.pointer (some ⟨w.heap.size, 0, none⟩))) (w.alloc (.cells v.cells T)) v :=
    RV.rel_mono (fun _ _ h => h) (fun b k hb => g.cell (phi_lt h hb)) r v (fun i hi => by simp [updI, hne i hi]) hr
  obtain ⟨h1, h2, h3, h4⟩ := newOb (v := .pointer (some ⟨w.heap.size, 0, none⟩)) (ob := .box T t r) h hn hfree g
    ⟨w.heap.size, v.cells, (0, 0), v, by simp [updI], hb, hsz, frOk_zero _, RV.rel_one r t v hr hf, hr', rfl, hf, fun k hk => by have := phi_lt h hk; omega⟩ hl rfl
    (fun b hb => by have : w.heap.size = b := by simpa [blk] using hb
                    omega)
  refine ⟨_, _, φ, _, rfl, h1, h2, h3, h4, rel_ptr ⟨w.heap.size, 0, .inr ⟨by simp [updI], rfl, rfl⟩, by simp [Ty.offAt], ht⟩, ?_⟩
  intro i hi
  have : i = n := by simpa [RV.ids] using hi
  subst this
  rw [getOb_put H i _ i hn, if_pos rfl]
  rfl
theorem boxAct_sound [Env] (tab : TabOK P cx) {T : TypeId} {x : RV} (e : (boxAct cx T x).go H n = some (r, H', n')) (h : HRel φ ι w H) {v : Value} (hx : x.rel φ ι w v) (lx : ∀ i ∈ x.ids, (getOb H i).live = true) (hfr : Free H n n') :
    Yld φ ι w H n r H' n' ((Instr.box T v).run P w) := by
  unfold boxAct at e
  split at e
  · rename_i i hi
    obtain ⟨y, H1, n1, e1, e2⟩ := HM.go_bind_some e
    clear e
    obtain ⟨rfl, φ1, g1, hy, ly⟩ := boxed_sound e1 h (typ_rel hx) (fun i hi => lx i (typ_ids i hi))
    have q := go_bif e2; clear e2; obtain ⟨hf, e2⟩ := q
    simp only [HM.go, Option.some.injEq, Prod.mk.injEq] at e2
    obtain ⟨rfl, rfl, rfl⟩ := e2
    have hfr1 := hfr.ghost g1
    obtain ⟨v', w', φ', ι', k1, k2, k3, k4, k5, k6, k7⟩ := newBox (T := T) g1.rel hy hf ly hfr1.1 (hfr1.2 n1 (Nat.le_refl _) (by omega)) rfl
    injection k1 with k1 k1'
    subst k1 k1'
    exact ⟨_, _, φ', ι', by simp [Instr.box, run_newVar], k2, g1.step.trans k3, g1.keep.trans k4, (g1.nx _).trans k5, k6, k7⟩
  · simp [HM.go] at e
theorem zero_sound (tab : TabOK P cx) {T : TypeId} {z : RV} (hz : cx.zeroRV 20 T = some z) (hi : ∃ i, cx.ti T = some i) : ∃ i v, cx.ti T = some i ∧ (∀ w, (zeroValue T).run P w = .ok v w) ∧ v.cells.size = i.ty.size ∧ isAggV v = i.ty.isAgg ∧ z.fits i.ty = true ∧ z.ids = [] ∧ ∀ φ ι w, z.rel φ ι w v := by
  obtain ⟨i, hi⟩ := hi
  obtain ⟨info, h1, h2, h3⟩ := (tab T i hi).info
  obtain ⟨v, k1, k2, k3, k4, k5, k6⟩ := h3 z hz
  exact ⟨i, v, hi, fun w => by simp [zeroValue, typeInfo, h1, k1], k2, k3, k4, k5, k6⟩
theorem allocAct_sound [Env] (tab : TabOK P cx) {T : TypeId} (e : (allocAct cx T).go H n = some (r, H', n')) (h : HRel φ ι w H) (hfr : Free H n n') :
    Yld φ ι w H n r H' n' ((Instr.alloc T true (.tuple #[])).run P w) := by
  unfold allocAct at e
  split at e
  · rename_i z hz
    have hi : ∃ i, cx.ti T = some i := by
      cases hi : cx.ti T with
      | some i => exact ⟨i, rfl⟩
      | none => simp [boxAct, hi, HM.go] at e
    obtain ⟨i, v, _, hrun, _, _, _, hids, hr⟩ := zero_sound tab hz hi
    have := boxAct_sound tab e h (hr φ ι w) (by rw [hids]; simp) hfr
    have e2 : (Instr.alloc T true (.tuple #[])).run P w = (Instr.box T v).run P w := by
      unfold Instr.alloc
      simp [hrun, Instr.box]
    rw [e2]
    exact this
  · simp [HM.go] at e
end
end Go.X
