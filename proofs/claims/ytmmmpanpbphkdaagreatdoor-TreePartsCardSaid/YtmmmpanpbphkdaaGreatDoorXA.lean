import Derived.Below
import Derived.Laws.OwnMore
import Derived.Laws.IdiomCopy
import Derived.Laws.MakeOwn
import Derived.Orders
import Derived.KernelRfl
import Derived.LoopN
import Derived.Laws.Strings
import Derived.Lib.ConvBytes
import Derived.Laws.NewFold
set_option linter.unusedVariables false
set_option linter.unusedSimpArgs false
namespace Go.X
theorem aA {α:Sort _} (a b:α):(bif true then a else b)=a:=rfl
theorem aL {α:Sort _} (a b:α):(bif false then a else b)=b:=rfl
theorem b7 (b:Bool):(b&&b)=b:=Bool.and_self b
theorem bQ (n:Nat):Int.toNat (n:Int)=n:=rfl
theorem bs {α:Type _} (a b:α):(some a=some b)=(a=b):=Option.some.injEq a b
theorem ct {α:Type _} {β:Type _} (a:α) (b:β) (c:α) (d:β):((a,b)=(c,d))=(a=c∧b=d):=Prod.mk.injEq a b c d
theorem bB (a b:Bool):((a&&b)=true)=(a=true∧b=true):=Bool.and_eq_true a b
theorem db {p:Prop} [Decidable p]:(decide p=true)=p:=decide_eq_true_eq
theorem dt:(!true)=false:=rfl
theorem dr:(!false)=true:=rfl
theorem cK (h:Decidable True):@decide True h=true:=decide_true h
inductive aD where
 |bool |int (k:IntKind)|str |opq |unit |list (t:aD)|pair (a b:aD)
 deriving DecidableEq
@[reducible] def aD.den:aD->Type
 | .bool=>Bool | .int _=>Int | .str=>List UInt8 | .opq=>Unit | .unit=>Unit
 | .list t=>List t.den | .pair a b=>a.den×b.den
def aD.size:aD->Nat
 | .unit=>0 | .pair a b=>a.size+b.size |_=>1
def aD.isAgg:aD->Bool
 | .unit=>true | .pair _ _=>true |_=>false
def aD.zero:(t:aD)->t.den
 | .bool=>false | .int _=>(0:Int)| .str=>[] | .opq=>()| .unit=>()| .list _=>[] | .pair a b=>(a.zero,b.zero)
structure dN where
 t:aD
 x:t.den
def aD.cast? (t u:aD) (x:t.den):Option u.den:=if h:t=u then some (h▸x) else none
def aD.nth:aD->Nat->Option aD
 | .pair a _,0=>some a | .pair _ b,i+1=>b.nth i |_,_=>none
def aD.offs:aD->Nat->Nat
 | .pair _ _,0=>0 | .pair a b,i+1=>a.size+b.offs i |_,_=>0
def aD.proj:(t:aD)->t.den->Nat->Option dN
 | .pair a _,x,0=>some ⟨a,x.1⟩| .pair _ b,x,i+1=>b.proj x.2 i |_,_,_=>none
def dN.at_:dN->List Nat->Option dN
 |d,[]=>some d
 |d,i::p=>match d.t.proj d.x i with
  |some e=>e.at_ p
  |none=>none
def aD.at_:aD->List Nat->Option aD
 |t,[]=>some t
 |t,i::p=>match t.nth i with
  |some e=>e.at_ p
  |none=>none
def aD.offAt:aD->List Nat->Nat
 |_,[]=>0
 |t,i::p=>t.offs i+(match t.nth i with |some e=>e.offAt p |none=>0)
def aD.setAt:(t:aD)->t.den->List Nat->dN->Option t.den
 |t,_,[],v=>v.t.cast? t v.x
 | .pair a _,x,0::p,v=>(a.setAt x.1 p v).map fun y=>(y,x.2)
 | .pair _ b,x,(i+1)::p,v=>(b.setAt x.2 (i::p) v).map fun y=>(x.1,y)
 |_,_,_,_=>none
def aD.cmp:aD->Bool
 | .bool=>true | .int _=>true | .str=>true | .unit=>true | .pair a b=>a.cmp&&b.cmp |_=>false
def aD.eqb:(t:aD)->t.den->t.den->Bool
 | .bool,x,y=>x==y
 | .int _,x,y=>decide ((x:Int)=y)
 | .str,x,y=>decide ((x:List UInt8)=y)
 | .pair a b,x,y=>a.eqb x.1 y.1&&b.eqb x.2 y.2
 |_,_,_=>true
def aD.chain:aD->Bool
 | .unit=>true | .pair _ b=>b.chain |_=>false
def aD.parts:(t:aD)->t.den->List dN
 | .pair a b,x=>⟨a,x.1⟩::b.parts x.2
 |_,_=>[]
inductive DT (α:Type):Type 1 where
 |leaf (a:α)
 |fail
 |br (b:Bool) (x y:DT α)
 |opt {β:Type} (o:Option β) (k:β->DT α)
 |alt {β γ:Type} (o:Option (β⊕γ)) (k:β->DT α) (h:γ->DT α)
namespace DT
variable {α β:Type}
def val:DT α->Option α
 |leaf a=>some a
 |fail=>none
 |br b x y=>bif b then x.val else y.val
 |opt o k=>match o with |some r=>(k r).val |none=>none
 |alt o k h=>match o with |some (.inl r)=>(k r).val |some (.inr r)=>(h r).val |none=>none
def bind:DT α->(α->DT β)->DT β
 |leaf a,f=>f a
 |fail,_=>fail
 |br b x y,f=>br b (x.bind f) (y.bind f)
 |opt o k,f=>opt o fun r=>(k r).bind f
 |alt o k h,f=>alt o (fun r=>(k r).bind f) (fun r=>(h r).bind f)
def map (f:α->β) (x:DT α):DT β:=x.bind fun a=>leaf (f a)
def ofOpt (o:Option α):DT α:=match o with |some a=>leaf a |none=>fail
end DT
inductive ae where
 |undef
 |dat (t:aD) (x:t.den)
 |clip (t:aD) (xs:List t.den)
 |nilv
 |nils (e:TypeId) (t:aD)
 |own (t:aD) (o:Nat)
 |view (t:aD) (o:Nat) (lo ab:Nat)
 |ptr (o:Nat) (t:aD) (i:Nat) (path:List Nat)
 |fptr (t:aD) (x:t.den)
 |agg (l:List ae)
 |tup (l:List ae)
 |fn (f:FuncId) (first jY:List ae)
 |iface (T:TypeId) (r:ae)
 |nilI |nilF |nilP
 |atl (n:Nat)
 |lim (t:aD) (xs:List t.den) (c:Nat)
 |yld (Y:Nat) (o:Nat)
 |gp (b off:Nat) (l:List (Option Nat))
 |dfr (f:FuncId) (a b:List ae) (t:aD) (xs:List t.den)
inductive aG where
 |hole
 |gone
 |arr (e:TypeId) (t:aD) (xs:List t.den) (fz:Bool)
 |box (T:TypeId) (t:aD) (r:ae)
 |iter (s:List UInt8) (pos:Int)
 |loop (Y:Nat) (R:List (Nat×ae)) (p:Int)
abbrev bD:=List (Nat×ae)
structure bn where
 regs:bD
 heap:List aG
def bD.get:bD->Nat->Option ae
 |[],_=>none
 |(e,s)::l,d=>bif Nat.beq d e then some s else bD.get l d
def bD.put:bD->Nat->ae->bD
 |[],d,r=>[(d,r)]
 |(e,s)::l,d,r=>bif Nat.beq d e then (d,r)::l else bif Nat.blt d e then (d,r)::(e,s)::l else (e,s)::bD.put l d r
inductive HM (α:Type):Type 1 where
 |ret (a:α)
 |fail
 |br (b:Bool) (x y:HM α)
 |opt {β:Type} (o:Option β) (k:β->HM α)
 |alt {β γ:Type} (o:Option (β⊕γ)) (k:β->HM α) (h:γ->HM α)
 |rdc (o:Nat) (k:aG->HM α)
 |frz (o:Nat) (k:HM α)
 |rdw (o:Nat) (k:aG->HM α)
 |wr (o:Nat) (b:aG) (k:HM α)
 |nw (b:aG) (k:Nat->HM α)
 |nxt (k:Nat->HM α)
structure cI where
 rd:List Nat
 fz:List Nat
 wr:List Nat
def cI.none:cI:=⟨[],[],[]⟩
def aG.mask:aG->aG
 | .arr e t xs _=>.arr e t xs false
 |b=>b
def aG.freeze:aG->aG
 | .arr e t xs _=>.arr e t xs true
 |b=>b
def aF (h:List aG) (o:Nat):aG:=h.getD o .hole
def bL:List aG->Nat->aG->List aG
 |[],0,b=>[b]
 |[],_+1,_=>[]
 |_::l,0,b=>b::l
 |a::l,n+1,b=>a::bL l n b
namespace HM
variable {α β:Type}
def bind:HM α->(α->HM β)->HM β
 |ret a,f=>f a
 |fail,_=>fail
 |br b x y,f=>br b (x.bind f) (y.bind f)
 |opt o k,f=>opt o fun r=>(k r).bind f
 |alt o k h,f=>alt o (fun r=>(k r).bind f) (fun r=>(h r).bind f)
 |rdc o k,f=>rdc o fun b=>(k b).bind f
 |frz o k,f=>frz o (k.bind f)
 |rdw o k,f=>rdw o fun b=>(k b).bind f
 |wr o b k,f=>wr o b (k.bind f)
 |nw b k,f=>nw b fun i=>(k i).bind f
 |nxt k,f=>nxt fun i=>(k i).bind f
def map (f:α->β) (x:HM α):HM β:=x.bind fun a=>ret (f a)
def ofOpt (o:Option α):HM α:=match o with |some a=>ret a |none=>fail
def chk (b:Bool) (x:HM α):HM α:=br b x fail
def ofDT:DT α->HM α
 | .leaf a=>ret a
 | .fail=>fail
 | .br b x y=>br b (ofDT x) (ofDT y)
 | .opt o k=>opt o fun r=>ofDT (k r)
 | .alt o k h=>alt o (fun r=>ofDT (k r)) (fun r=>ofDT (h r))
def run:HM α->List aG->Nat->cI->DT (α×List aG×Nat×cI)
 |ret a,h,n,p=>.leaf (a,h,n,p)
 |fail,_,_,_=>.fail
 |br b x y,h,n,p=>.br b (x.run h n p) (y.run h n p)
 |opt o k,h,n,p=>.opt o fun r=>(k r).run h n p
 |alt o k l,h,n,p=>.alt o (fun r=>(k r).run h n p) (fun r=>(l r).run h n p)
 |rdc o k,h,n,p=>(k (aF h o).mask).run h n ⟨o::p.rd,p.fz,p.wr⟩
 |frz o k,h,n,p=>k.run (bL h o (aF h o).freeze) n ⟨p.rd,o::p.fz,p.wr⟩
 |rdw o k,h,n,p=>(k (aF h o)).run h n ⟨p.rd,p.fz,o::p.wr⟩
 |wr o b k,h,n,p=>k.run (bL h o b) n ⟨p.rd,p.fz,o::p.wr⟩
 |nw b k,h,n,p=>(k n).run (bL h n b) (n+1) ⟨p.rd,p.fz,n::p.wr⟩
 |nxt k,h,n,p=>(k n).run h n p
end HM
structure e4 where
 ty:aD
 elem:TypeId:=0
 fields:List TypeId:=[]
 bytes:Nat:=8
 cmp:Bool:=false
 arr:Bool:=false
 nil:Bool:=false
 meths:List (String×Nat):=[]
structure bS where
 tab:List (Nat×e4)
 rawArg:FuncId->Nat->Bool
def bS.ti (cx:bS) (T:TypeId):Option e4:=go cx.tab
where
 go:List (Nat×e4)->Option e4
  |[]=>none
  |(U,i)::l=>bif Nat.beq T U then some i else go l
def Y5 {α:Type}:List (Option α)->Option (List α)
 |[]=>some []
 |o::l=>match o,Y5 l with
  |some a,some m=>some (a::m)
  |_,_=>none
def bS.zeroRV (cx:bS):Nat->TypeId->Option ae
 |0,_=>none
 |n+1,T=>match cx.ti T with
  |none=>none
  |some i=>match i.fields with
   |[]=>match i.ty with
    | .list t=>some (.nils i.elem t)
    | .opq=>bif i.nil then some .nilI else bif i.arr then some .nilF else none
    |t=>some (.dat t t.zero)
   |f::fs=>match Y5 ((f::fs).map (cx.zeroRV n)) with
    |some l=>some (.agg l)
    |none=>none
def DD:Value->ae
 | .bool b=>.dat .bool b
 | .int k n=>.dat (.int k) n
 | .string s=>.dat .str s.data.toList
 | .slice none 0 0=>.nilv
 | .pointer none=>.nilP
 | .nilFunc=>.nilF
 | .nilIface=>.nilI
 |_=>.undef
def bS.typ (cx:bS) (T:TypeId) (r:ae):ae:=match r with
 | .nilv=>match cx.ti T with
  |some i=>match i.ty with
   | .list t=>.nils i.elem t
   |_=>.undef
  |none=>.undef
 |r=>r
mutual
def fQ:ae->HM dN
 | .dat t x=>.ret ⟨t,x⟩
 | .clip t xs=>.ret ⟨.list t,xs⟩
 | .lim t xs _=>.ret ⟨.list t,xs⟩
 | .nils _ t=>.ret ⟨.list t,[]⟩
 | .own t o=>.frz o (.rdc o fun b=>match b with
  | .arr _ u xs _=>match u.list.cast? t.list xs with
   |some aT=>.ret ⟨.list t,aT⟩
   |none=>.fail
  |_=>.fail)
 | .view t o lo ab=>.frz o (.rdc o fun b=>match b with
  | .arr _ u xs _=>match u.list.cast? t.list xs with
   |some aT=>.ret ⟨.list t,(List.take ab aT).drop lo⟩
   |none=>.fail
  |_=>.fail)
 | .agg l=>sk l
 |_=>.fail
def sk:List ae->HM dN
 |[]=>.ret ⟨.unit,()⟩
 |r::l=>(fQ r).bind fun d=>(sk l).bind fun e=>.ret ⟨.pair d.t e.t,(d.x,e.x)⟩
end
def u7 (t:aD) (r:ae):HM t.den:=(fQ r).bind fun d=>HM.ofOpt (d.t.cast? t d.x)
mutual
def ae.fits:ae->aD->Bool
 | .dat u _,t=>decide (u=t)
 | .nils _ u,t=>decide (aD.list u=t)
 | .own u _,t=>decide (aD.list u=t)
 | .agg l,t=>ae.fitsL l t
 | .ptr ..,t=>decide (t=.opq)
 | .fptr ..,t=>decide (t=.opq)
 | .fn ..,t=>decide (t=.opq)
 | .yld ..,t=>decide (t=.opq)
 | .iface ..,t=>decide (t=.opq)
 | .nilI,t=>decide (t=.opq)
 | .nilF,t=>decide (t=.opq)
 | .nilP,t=>decide (t=.opq)
 |_,_=>false
def ae.fitsL:List ae->aD->Bool
 |[],t=>decide (t=.unit)
 |r::l,t=>match t with
  | .pair a b=>r.fits a&&ae.fitsL l b
  |_=>false
end
def ae.comp:ae->Nat->Option ae
 | .agg l,i=>l[i]?
 | .dat t x,i=>(t.proj x i).map fun d=>.dat d.t d.x
 |_,_=>none
def ae.atPath:ae->List Nat->Option ae
 |r,[]=>some r
 |r,i::p=>match r.comp i with
  |some s=>s.atPath p
  |none=>none
def ae.open_:ae->Option (List ae)
 | .agg l=>some l
 | .dat t x=>bif t.chain then some ((t.parts x).map fun d=>.dat d.t d.x) else none
 |_=>none
def ae.setPath:List Nat->ae->ae->Option ae
 |[],_,v=>some v
 |i::p,r,v=>match r.open_ with
  |some l=>match l[i]? with
   |some s=>match ae.setPath p s v with
    |some gd=>some (.agg (l.set i gd))
    |none=>none
   |none=>none
  |none=>none
def ix (l:List UInt8):List Int:=l.map fun b=>(b.toNat:Int)
def rQ (l:List Int):List UInt8:=l.map fun n=>UInt8.ofNat n.toNat
def bm:Nat:=140737488355328
def mm (r:ae):HM dN:=match r with
 | .own t o=>.rdc o fun b=>match b with
  | .arr _ u xs _=>.ret ⟨.list u,xs⟩
  |_=>.fail
 | .view t o lo ab=>.rdc o fun b=>match b with
  | .arr _ u xs _=>bif decide (u=t) then .ret ⟨.list u,(xs.take ab).drop lo⟩ else .fail
  |_=>.fail
 | .dat .str s=>.ret ⟨.list (.int .u8),ix s⟩
 |r=>fQ r
def Le (cx:bS) (T:TypeId):Bool:=match cx.ti T with
 |some j=>decide (j.ty=.str)
 |none=>false
def lenOf (r:ae):HM Nat:=match r with
 | .dat (.list _) xs=>.ret xs.length
 | .dat .str xs=>.ret xs.length
 | .clip _ xs=>.ret xs.length
 | .nils _ _=>.ret 0
 | .own t o=>.rdc o fun b=>match b with
  | .arr _ _ xs _=>.ret xs.length
  |_=>.fail
 | .view _ _ lo ab=>.ret (ab-lo)
 |_=>.fail
def yk (op:BinOp) (k:IntKind) (a b:Int):HM ae:=
 match op with
 | .add=>.ret (.dat (.int k) (k.wrap (a+b)))
 | .sub=>.ret (.dat (.int k) (k.wrap (a-b)))
 | .mul=>.ret (.dat (.int k) (k.wrap (a*b)))
 | .quo=>.br (decide (b=0)) .fail (.ret (.dat (.int k) (k.wrap (a.tdiv b))))
 | .rem=>.br (decide (b=0)) .fail (.ret (.dat (.int k) (a.tmod b)))
 | .and=>.ret (.dat (.int k) (k.wrap (BitVec.ofInt k.bits a &&& BitVec.ofInt k.bits b).toNat))
 | .or=>.ret (.dat (.int k) (k.wrap (BitVec.ofInt k.bits a ||| BitVec.ofInt k.bits b).toNat))
 | .xor=>.ret (.dat (.int k) (k.wrap (BitVec.ofInt k.bits a ^^^ BitVec.ofInt k.bits b).toNat))
 | .andNot=>.ret (.dat (.int k) (k.wrap (BitVec.ofInt k.bits a &&& ~~~(BitVec.ofInt k.bits b)).toNat))
 | .eql=>.ret (.dat .bool (decide (a=b)))
 | .neq=>.ret (.dat .bool (!decide (a=b)))
 | .lss=>.ret (.dat .bool (decide (a<b)))
 | .leq=>.ret (.dat .bool (decide (a<=b)))
 | .gtr=>.ret (.dat .bool (decide (a>b)))
 | .geq=>.ret (.dat .bool (decide (a>=b)))
 |_=>.fail
def DO (op:BinOp) (k:IntKind) (a b:Int):HM ae:=
 match op with
 | .shl=>.br (decide (b<0)) .fail (.ret (.dat (.int k) (k.wrap (a*2^(min b.toNat k.bits)))))
 | .shr=>.br (decide (b<0)) .fail (.ret (.dat (.int k) (a.fdiv (2^(min b.toNat k.bits)))))
 |_=>.fail
def Ly (op:BinOp) (x y:List UInt8):HM ae:=
 match op with
 | .add=>.chk (decide (x.length+y.length<=bm)) (.ret (.dat .str (x++y)))
 | .eql=>.ret (.dat .bool (decide (x=y)))
 | .neq=>.ret (.dat .bool (!decide (x=y)))
 | .lss=>.ret (.dat .bool (Op.bytesLess x y))
 | .leq=>.ret (.dat .bool (Op.bytesLess x y||decide (x=y)))
 | .gtr=>.ret (.dat .bool (!(Op.bytesLess x y||decide (x=y))))
 | .geq=>.ret (.dat .bool (!(Op.bytesLess x y)))
 |_=>.fail
def bS.isTy (cx:bS) (T:TypeId) (t:aD):Bool:=match cx.ti T with
 |some i=>decide (i.ty=t)
 |none=>false
def bS.isTyO (cx:bS) (T:TypeId) (t:Option aD):Bool:=match t with
 |some t=>cx.isTy T t
 |none=>false
def Lk (cx:bS) (op:BinOp) (T:TypeId) (x y:ae):HM ae:=
 match x,y with
 | .dat (.int k) a,.dat (.int k') b=>match op with
  | .shl=>DO op k a b
  | .shr=>DO op k a b
  |_=>bif decide (k=k') then yk op k a b else .fail
 | .dat .str a,.dat .str b=>Ly op a b
 | .dat (.int k) a,.atl m=>match op with
  | .gtr=>bif decide (k=.i64) then .chk (decide (a<=(m:Int))) (.ret (.dat .bool false)) else .fail
  |_=>.fail
 | .dat .bool a,.dat .bool b=>bif cx.isTy T .bool then match op with
  | .eql=>.ret (.dat .bool (a==b))
  | .neq=>.ret (.dat .bool (!(a==b)))
  |_=>.fail
  else .fail
 |x,y=>match cx.ti T with
  |some i=>bif i.cmp&&i.ty.cmp&&i.ty.isAgg then (u7 i.ty x).bind fun a=>(u7 i.ty y).bind fun b=>match op with
    | .eql=>.ret (.dat .bool (i.ty.eqb a b))
    | .neq=>.ret (.dat .bool (!(i.ty.eqb a b)))
    |_=>.fail
   else .fail
  |none=>.fail
def Lw (cx:bS) (op:BinOp) (T:TypeId) (x:ae):HM ae:=match cx.ti T with
 |some i=>bif i.nil then (match x,op with
  | .iface _ _,.eql=>.ret (.dat .bool false)
  | .iface _ _,.neq=>.ret (.dat .bool true)
  | .nilI,.eql=>.ret (.dat .bool true)
  | .nilI,.neq=>.ret (.dat .bool false)
  |_,_=>.fail) else .fail
 |none=>.fail
def tg:List (String×Nat)->String->Option Nat
 |[],_=>none
 |(n,f)::l,nm=>bif n==nm then some f else tg l nm
def LD (op:UnOp) (x:ae):HM ae:=match op,x with
 | .neg,.dat (.int k) a=>.ret (.dat (.int k) (k.wrap (0-a)))
 | .not,.dat .bool a=>.ret (.dat .bool (!a))
 | .xor,.dat (.int k) a=>.ret (.dat (.int k) (k.wrap (BitVec.ofInt k.bits (if k.signed then-1 else k.max) ^^^ BitVec.ofInt k.bits a).toNat))
 |_,_=>.fail
def ae.isStr:ae->Bool
 | .dat .str _=>true |_=>false
def K6 (cx:bS) (S T:TypeId) (x:ae):HM ae:=match cx.ti S,cx.ti T with
 |some i,some j=>match i.ty,j.ty with
  | .int _,.int k=>match x with
   | .dat (.int _) a=>.ret (.dat (.int k) (k.wrap a))
   |_=>.fail
  | .str,.str=>match x with
   | .dat .str a=>.ret (.dat .str a)
   |_=>.fail
  | .str,.list (.int .u8)=>match x with
   | .dat .str a=>.chk (decide (a.length<=bm)) (.nw (.arr j.elem (.int .u8) (ix a) false) fun o=>.ret (.own (.int .u8) o))
   |_=>.fail
  | .list (.int .u8),.str=>bif x.isStr then .fail else (mm x).bind fun d=>(HM.ofOpt (d.t.cast? (.list (.int .u8)) d.x)).bind fun l=>.ret (.dat .str (rQ l))
  |_,_=>.fail
 |_,_=>.fail
def sg:ae->Option Int
 | .dat (.int _) a=>some a
 |_=>none
def kL:ae->Option Bool
 | .dat .bool a=>some a
 |_=>none
def u6:Option ae->Option (Option Int)
 |none=>some none
 |some r=>(sg r).map some
def Kv (cx:bS) (T:TypeId) (x:ae) (lo ab eT:Option Int):HM ae:=
 match x with
 | .dat .str s=>match eT with
  |some _=>.fail
  |none=>bif cx.isTy T .str then
   .chk (decide (0<=lo.getD 0)&&decide (lo.getD 0<=ab.getD (s.length:Int))&&decide (ab.getD (s.length:Int)<=(s.length:Int))) (.ret (.dat .str ((s.take (ab.getD (s.length:Int)).toNat).drop (lo.getD 0).toNat)))
   else .fail
 | .own t o=>match eT with
  |some m=>match ab with
   |none=>.fail
   |some h=>bif cx.isTy T (.list t) then .rdc o fun b=>match b with
    | .arr _ u xs _=>bif decide (u=t) then
     .chk (decide (0<=lo.getD 0)&&decide (lo.getD 0<=h)&&decide (h<=m)&&decide (m<=(xs.length:Int))) (.ret .undef)
     else .fail
    |_=>.fail
    else .fail
  |none=>bif cx.isTy T (.list t) then .rdc o fun b=>match b with
   | .arr _ u xs _=>bif decide (u=t) then
    .chk (decide (0<=lo.getD 0)&&decide (lo.getD 0<=ab.getD (xs.length:Int))&&decide (ab.getD (xs.length:Int)<=(xs.length:Int))) (.ret (.view t o (lo.getD 0).toNat (ab.getD (xs.length:Int)).toNat))
    else .fail
   |_=>.fail
   else .fail
 | .view t o a z=>match eT with
  |some _=>.fail
  |none=>bif cx.isTy T (.list t) then .rdc o fun b=>match b with
   | .arr _ u xs _=>bif decide (u=t) then
    .chk (decide (0<=lo.getD 0)&&decide (lo.getD 0<=ab.getD ((z-a:Nat):Int))&&decide (ab.getD ((z-a:Nat):Int)<=((xs.length-a:Nat):Int))) (.ret (.view t o (a+(lo.getD 0).toNat) (a+(ab.getD ((z-a:Nat):Int)).toNat)))
    else .fail
   |_=>.fail
   else .fail
 | .nils e t=>match eT with
  |some _=>.fail
  |none=>bif cx.isTy T (.list t) then .chk (decide (lo.getD 0=0)&&decide (ab.getD 0=0)) (.ret (.nils e t)) else .fail
 |x=>(fQ x).bind fun d=>match d with
  |⟨.list t,xs⟩=>bif cx.isTy T (.list t) then
   match eT with
   |none=>.chk (decide (0<=lo.getD 0)&&decide (lo.getD 0<=ab.getD (xs.length:Int))&&decide (ab.getD (xs.length:Int)<=(xs.length:Int))) (.ret (.dat (.list t) ((xs.take (ab.getD (xs.length:Int)).toNat).drop (lo.getD 0).toNat)))
   |some m=>match ab with
    |some h=>.chk (decide (0<=lo.getD 0)&&decide (lo.getD 0<=h)&&decide (h<=(xs.length:Int))&&decide (h=m)) (.ret (.clip t ((xs.take h.toNat).drop (lo.getD 0).toNat)))
    |none=>.fail
   else .fail
  |_=>.fail
def KR (cx:bS) (T:TypeId) (x:ae) (lo ab eT:Option Int):HM ae:=
 match x,lo,ab,eT with
 | .clip t xs,none,some h,none=>bif cx.isTy T (.list t) then .chk (decide (0<=h)&&decide (h<=(xs.length:Int))) (.ret (.lim t (xs.take h.toNat) xs.length)) else .fail
 |x,lo,ab,eT=>Kv cx T x lo ab eT
def sm {α:Type} (k:Nat) (f:Nat->HM α):Nat->HM α
 |0=>.fail
 |n+1=>.br (Nat.beq k n) (f n) (sm k f n)
def IU (cx:bS) (T:TypeId) (x:ae) (i:Int):HM ae:=
 match x with
 | .own t o=>bif cx.isTy T (.list t) then .rdc o fun b=>match b with
  | .arr _ u xs _=>bif decide (u=t) then .chk (decide (0<=i)&&decide (i<(xs.length:Int))) (.ret (.ptr o t i.toNat [])) else .fail
  |_=>.fail
  else .fail
 | .view t o lo ab=>bif cx.isTy T (.list t) then .chk (decide (0<=i)&&decide (i<((ab-lo:Nat):Int))) (.ret (.ptr o t (lo+i.toNat) [])) else .fail
 | .ptr o t j p=>bif cx.isTyO T (t.at_ p) then match cx.ti T with
  |some ti=>bif ti.arr&&ti.ty.isAgg then .chk (decide (0<=i)&&decide (i<(ti.fields.length:Int))) (sm i.toNat (fun k=>.ret (.ptr o t j (p++[k]))) ti.fields.length) else .fail
  |none=>.fail
  else .fail
 | .fptr t v=>bif cx.isTy T t then match cx.ti T with
  |some ti=>bif ti.arr&&ti.ty.isAgg then .chk (decide (0<=i)&&decide (i<(ti.fields.length:Int))) (sm i.toNat (fun k=>(HM.ofOpt (t.proj v k)).bind fun d=>.ret (.fptr d.t d.x)) ti.fields.length) else .fail
  |none=>.fail
  else .fail
 | .gp b off l=>match cx.ti T with
  |some ti=>bif ti.arr&&ti.ty.isAgg then .chk (decide (0<=i)&&decide (i<(ti.fields.length:Int))) (sm i.toNat (fun k=>.ret (.gp b (off+ti.ty.offs k) (l.drop (ti.ty.offs k)))) ti.fields.length) else .fail
  |none=>.fail
 | .dat (.list t) xs=>bif cx.isTy T (.list t) then .chk (decide (0<=i)&&decide (i<(xs.length:Int))) (.ret (.fptr t (xs.getD i.toNat t.zero))) else .fail
 | .clip t xs=>bif cx.isTy T (.list t) then .chk (decide (0<=i)&&decide (i<(xs.length:Int))) (.ret (.fptr t (xs.getD i.toNat t.zero))) else .fail
 |_=>.fail
def KG (cx:bS) (T:TypeId) (x:ae) (i:Int):HM ae:=match x with
 | .dat .str s=>bif cx.isTy T .str then .chk (decide (0<=i)&&decide (i<(s.length:Int))) (.ret (.dat (.int .u8) ((s.getD i.toNat 0).toNat:Int))) else .fail
 |_=>.fail
def IS (cx:bS) (T:TypeId) (x:ae) (f:Nat):HM ae:=match cx.ti T with
 |some ti=>bif !ti.arr&&ti.ty.isAgg&&Nat.blt f ti.fields.length then match x with
  | .ptr o t j p=>bif cx.isTyO T (t.at_ p) then .ret (.ptr o t j (p++[f])) else .fail
  | .fptr t v=>bif cx.isTy T t then (HM.ofOpt (t.proj v f)).bind fun d=>.ret (.fptr d.t d.x) else .fail
  |_=>.fail
  else .fail
 |none=>.fail
def KE (cx:bS) (T:TypeId) (x:ae) (f:Nat):HM ae:=match cx.ti T with
 |some i=>bif !i.arr&&i.ty.isAgg&&Nat.blt f i.fields.length&&x.fits i.ty then HM.ofOpt (x.comp f) else .fail
 |none=>.fail
def aah:Option Nat->ae
 |some f=>.fn f [] [] |none=>.nilF
def yg (cx:bS) (T:TypeId) (a:ae):HM ae:=match a with
 | .gp _ _ l=>bif cx.isTy T .opq then (HM.ofOpt l.head?).bind fun x=>.ret (aah x) else .fail
 | .fptr t v=>bif cx.isTy T t then .ret (.dat t v) else .fail
 | .ptr o s i p=>bif cx.isTyO T (s.at_ p) then .rdc o fun b=>match b with
  | .arr _ t xs _=>bif decide (s=t) then (HM.ofOpt (dN.at_ ⟨t,xs.getD i t.zero⟩ p)).bind fun d=>.ret (.dat d.t d.x) else .fail
  | .box _ t r=>bif decide (s=t) then HM.ofOpt (r.atPath p) else .fail
  |_=>.fail
  else .fail
 |_=>.fail
def yu (v:ae):HM ae:=match v with
 | .view ..=>(fQ v).bind fun d=>.ret (.dat d.t d.x)
 | .clip t xs=>.ret (.dat (.list t) xs)
 |v=>.ret v
def KT (cx:bS) (T:TypeId) (a v:ae):HM ae:=match a with
 | .ptr o s i p=>bif cx.isTyO T (s.at_ p) then .rdc o fun b=>match b with
  | .arr _ _ _ _=>(fQ v).bind fun d=>.rdw o fun b=>match b with
   | .arr e t xs fz=>bif decide (s=t)&& !fz&&cx.isTy T d.t then
     (HM.ofOpt (t.setAt (xs.getD i t.zero) p d)).bind fun y=>.wr o (.arr e t (xs.set i y) false) (.ret .undef)
    else .fail
   |_=>.fail
  | .box _ _ _=>(yu v).bind fun v=>.rdw o fun b=>match b with
   | .box U t r=>bif decide (s=t) then match t.at_ p with
    |some u=>bif v.fits u then (HM.ofOpt (r.setPath p v)).bind fun fB=>.wr o (.box U t fB) (.ret .undef) else .fail
    |none=>.fail
    else .fail
   |_=>.fail
  |_=>.fail
  else .fail
 |_=>.fail
def yl (cx:bS) (T:TypeId) (v:ae):HM ae:=match cx.ti T with
 |some i=>(yu (cx.typ T v)).bind fun v=>bif v.fits i.ty then .nw (.box T i.ty v) fun o=>.ret (.ptr o i.ty 0 []) else .fail
 |none=>.fail
def KJ (cx:bS) (T:TypeId):HM ae:=match cx.zeroRV 20 T with
 |some v=>yl cx T v
 |none=>.fail
def xY (cx:bS) (T:TypeId) (parts:List (Nat×ae)):HM ae:=match cx.ti T,cx.zeroRV 20 T with
 |some i,some (.agg l)=>go i l parts
 |_,_=>.fail
where
 go (i:e4):List ae->List (Nat×ae)->HM ae
  |l,[]=>.ret (.agg l)
  |l,(j,v)::r=>match i.fields[j]?,i.ty.nth j with
   |some U,some u=>(yu (cx.typ U v)).bind fun v=>bif v.fits u then go i (l.set j v) r else .fail
   |_,_=>.fail
def AU (cx:bS) (T:TypeId) (len:Nat) (parts:List (Nat×ae)):HM ae:=match cx.ti T with
 |some i=>match i.ty with
  | .list t=>bif Nat.ble (len*t.size) 100000 then (go t (List.replicate len t.zero) parts).bind fun xs=>.nw (.arr i.elem t xs false) fun o=>.ret (.own t o) else .fail
  |_=>.fail
 |none=>.fail
where
 go (t:aD):List t.den->List (Nat×ae)->HM (List t.den)
  |xs,[]=>.ret xs
  |xs,(j,v)::r=>match xs[j]? with
   |some _=>(u7 t v).bind fun y=>go t (xs.set j y) r
   |none=>.fail
def IW (cx:bS) (T:TypeId) (n c:Int):HM ae:=match cx.ti T with
 |some i=>match i.ty with
  | .list t=>.chk (decide (0<=n)&&decide (n<=c)&&decide (c*i.bytes<=(bm:Int))) (.nw (.arr i.elem t (List.replicate n.toNat t.zero) false) fun o=>.ret (.own t o))
  |_=>.fail
 |none=>.fail
def oV (cx:bS) (T:TypeId):Bool:=match cx.ti T with
 |some j=>match j.ty with
  | .list _=>true
  | .str=>true
  |_=>false
 |none=>false
def ZJ (x:ae) (o:Nat):Bool:=match x with
 | .view _ de _ _=>Nat.beq de o
 |_=>false
def KK (cx:bS) (T T2:TypeId) (s x:ae):HM ae:=match s,x with
 | .nils _ _,.dat (.int k) n=>bif cx.isTy T2 (.int k) then match cx.ti T with
  |some i=>match i.ty with
   | .list t=>.chk (decide (0<n)&&decide (n*i.bytes<=(bm:Int))) (.nw (.arr i.elem t (List.replicate n.toNat t.zero) false) fun o=>.ret (.own t o))
   |_=>.fail
  |none=>.fail
  else .fail
 |_,_=>.fail
def K3 (cx:bS) (T T2:TypeId) (s x:ae):HM ae:=match s,x with
 | .lim u xs c,.dat (.int k) n=>bif cx.isTy T2 (.int k) then match cx.ti T with
  |some i=>match i.ty with
   | .list t=>(HM.ofOpt (u.list.cast? t.list xs)).bind fun xs=>.chk (decide (0<n)&&decide ((c:Int)<xs.length+n)&&decide ((xs.length+n)*i.bytes<=(bm:Int))) (.nw (.arr i.elem t (xs++List.replicate n.toNat t.zero) false) fun o=>.ret (.own t o))
   |_=>.fail
  |none=>.fail
  else .fail
 |s,x=>KK cx T T2 s x
def Kd (cx:bS) (T T2:TypeId) (s x:ae):HM ae:=bif oV cx T2 then match cx.ti T with
 |some i=>match i.ty with
  | .list t=>(mm x).bind fun d=>(HM.ofOpt (d.t.cast? (.list t) d.x)).bind fun aT=>match s with
   | .nils _ _=>.chk (decide (aT.length*i.bytes<=bm)) (.nw (.arr i.elem t aT false) fun o=>.ret (.own t o))
   | .own _ o=>.rdw o fun b=>match b with
    | .arr e u xs fz=>(HM.ofOpt (u.list.cast? t.list xs)).bind fun xs=>bif Nat.beq e i.elem then
      .chk (decide ((xs.length+aT.length)*i.bytes<=bm)) (.wr o .gone (.nw (.arr e t (xs++aT) fz) fun o=>.ret (.own t o)))
     else .fail
    |_=>.fail
   | .view _ o 0 ab=>bif ZJ x o then .rdw o fun b=>match b with
    | .arr e u xs fz=>(HM.ofOpt (u.list.cast? t.list xs)).bind fun xs=>bif Nat.beq e i.elem&& !fz then
      .chk (decide (ab+aT.length<=xs.length)) (.wr o (.arr e t (xs.take ab++aT++xs.drop (ab+aT.length)) false) (.ret (.view t o 0 (ab+aT.length))))
     else .fail
    |_=>.fail
    else .rdw o fun b=>match b with
    | .arr e u xs fz=>(HM.ofOpt (u.list.cast? t.list xs)).bind fun xs=>bif Nat.beq e i.elem&& !fz then
      .chk (decide (((xs.take ab).length+aT.length)*i.bytes<=bm)) (.wr o .gone (.nw (.arr e t (xs.take ab++aT) false) fun o=>.ret (.own t o)))
     else .fail
    |_=>.fail
   | .clip u xs=>(HM.ofOpt (u.list.cast? t.list xs)).bind fun xs=>
      .chk (decide (0<aT.length)&&decide ((xs.length+aT.length)*i.bytes<=bm)) (.nw (.arr i.elem t (xs++aT) false) fun o=>.ret (.own t o))
   |_=>.fail
  |_=>.fail
 |none=>.fail
 else K3 cx T T2 s x
def uU (eT:Bool):ae->List ae->HM ae
 |x,[]=>.ret x
 | .dat (.int k) a,.dat (.int k') b::l=>bif decide (k=k') then uU eT (.dat (.int k) (if (if eT then a<b else b<a) then b else a)) l else .fail
 | .dat .str a,.dat .str b::l=>
  uU eT (.dat .str (bif (bif eT then !(Op.bytesLess a b) else (Op.bytesLess a b||decide (a=b))) then a else b)) l
 |_,_=>.fail
def K7 (cx:bS) (T:TypeId) (d s:ae):HM ae:=match d with
 | .own t o=>bif cx.isTy T (.list t) then (mm s).bind fun e=>.rdw o fun b=>match b with
  | .arr f u xs fz=>(HM.ofOpt (e.t.cast? (.list u) e.x)).bind fun aT=>bif decide (u=t)&& !fz then
    .wr o (.arr f u (xs.take 0++aT.take xs.length++xs.drop (0+(aT.take xs.length).length)) false) (.ret (.dat (.int .i64) ((aT.take xs.length).length:Int))) else .fail
  |_=>.fail
  else .fail
 | .view t o lo ab=>bif cx.isTy T (.list t) then (mm s).bind fun e=>.rdw o fun b=>match b with
  | .arr f u xs fz=>(HM.ofOpt (e.t.cast? (.list u) e.x)).bind fun aT=>bif decide (u=t)&& !fz then
    .wr o (.arr f u (xs.take lo++aT.take (ab-lo)++xs.drop (lo+(aT.take (ab-lo)).length)) false) (.ret (.dat (.int .i64) ((aT.take (ab-lo)).length:Int))) else .fail
  |_=>.fail
  else .fail
 |_=>.fail
def KM (cx:bS) (T:TypeId) (d:ae):HM ae:=match d with
 | .own t o=>bif cx.isTy T (.list t) then .rdw o fun b=>match b with
  | .arr e u xs fz=>bif decide (u=t)&& !fz then .wr o (.arr e u (xs.take 0++List.replicate xs.length u.zero++xs.drop (0+xs.length)) false) (.ret (.tup [])) else .fail
  |_=>.fail
  else .fail
 | .view t o lo ab=>bif cx.isTy T (.list t) then .rdw o fun b=>match b with
  | .arr e u xs fz=>bif decide (u=t)&& !fz then .wr o (.arr e u (xs.take lo++List.replicate (ab-lo) u.zero++xs.drop (lo+(ab-lo))) false) (.ret (.tup [])) else .fail
  |_=>.fail
  else .fail
 | .nils _ _=>.ret (.tup [])
 |_=>.fail
def mV (s:List UInt8) (pos:Int):Int×Int:=(((Utf8.decode ⟨⟨s⟩⟩ pos.toNat).1:Int),((Utf8.decode ⟨⟨s⟩⟩ pos.toNat).2:Int))
def KW (cx:bS) (T:TypeId) (x:ae):HM ae:=match x with
 | .dat .str s=>bif cx.isTy T .str then .nw (.iter s 0) fun o=>.ret (.ptr o .unit 0 []) else .fail
 |_=>.fail
def K4 (x:ae):HM ae:=match x with
 | .ptr o .unit 0 []=>.rdw o fun b=>match b with
  | .iter s pos=>.br (decide (pos<(s.length:Int))) (.wr o (.iter s (pos+(mV s pos).2)) (.ret (.tup [.dat .bool true,.dat (.int .i64) pos,.dat (.int .i32) (mV s pos).1]))) (.ret (.tup [.dat .bool false]))
  |_=>.fail
 |_=>.fail
def Ll (cx:bS) (T:TypeId) (x:ae):HM ae:=match x with
 | .nils _ t=>bif cx.isTy T (.list t) then .ret (.dat (.int .i64) (0:Int)) else .fail
 | .clip t xs=>bif cx.isTy T (.list t) then .ret (.dat (.int .i64) (xs.length:Int)) else .fail
 | .own t o=>bif cx.isTy T (.list t) then .rdc o fun b=>match b with
  | .arr _ u xs _=>.ret (.atl xs.length)
  |_=>.fail
  else .fail
 | .view t o lo ab=>bif cx.isTy T (.list t) then .rdc o fun b=>match b with
  | .arr _ u xs _=>.ret (.atl (xs.length-lo))
  |_=>.fail
  else .fail
 |_=>.fail
def JP (cx:bS) (b:Builtin) (fW:List TypeId) (args:List ae):HM ae:=
 match b,fW,args with
 | .len,[T],[x]=>bif oV cx T&&(Le cx T==x.isStr) then (lenOf x).bind fun n=>.ret (.dat (.int .i64) (n:Int)) else .fail
 | .append,[T,T2],[s,x]=>Kd cx T T2 s x
 | .min,_,x::l=>uU false x l
 | .max,_,x::l=>uU true x l
 | .clear,[T],[x]=>bif oV cx T then KM cx T x else .fail
 | .copy,[T,T2],[d,s]=>bif oV cx T2 then K7 cx T d s else .fail
 | .cap,[T],[x]=>Ll cx T x
 |_,_,_=>.fail
mutual
def ae.ids:ae->List Nat
 | .own _ o=>[o] | .view _ o _ _=>[o] | .ptr o _ _ _=>[o] | .yld _ o=>[o]
 | .agg l=>ae.idsL l | .tup l=>ae.idsL l | .fn _ a b=>ae.idsL a++ae.idsL b | .iface _ r=>r.ids | .dfr _ a b _ _=>ae.idsL a++ae.idsL b
 |_=>[]
def ae.idsL:List ae->List Nat
 |[]=>[] |r::l=>r.ids++ae.idsL l
end
mutual
def ae.ren (ρ:Nat->Nat):ae->ae
 | .own t o=>.own t (ρ o)| .view t o a b=>.view t (ρ o) a b | .ptr o t i p=>.ptr (ρ o) t i p | .yld Y o=>.yld Y (ρ o)
 | .agg l=>.agg (ae.renL ρ l)| .tup l=>.tup (ae.renL ρ l)| .fn f a b=>.fn f (ae.renL ρ a) (ae.renL ρ b)| .iface T r=>.iface T (r.ren ρ)| .dfr f a b t xs=>.dfr f (ae.renL ρ a) (ae.renL ρ b) t xs
 |r=>r
def ae.renL (ρ:Nat->Nat):List ae->List ae
 |[]=>[] |r::l=>r.ren ρ::ae.renL ρ l
end
def bD.ids:bD->List Nat
 |[]=>[] |(_,r)::l=>r.ids++bD.ids l
def bD.ren (ρ:Nat->Nat):bD->bD
 |[]=>[] |(d,r)::l=>(d,r.ren ρ)::bD.ren ρ l
def aG.ids:aG->List Nat
 | .box _ _ r=>r.ids | .loop _ R _=>bD.ids R |_=>[]
def aG.ren (ρ:Nat->Nat):aG->aG
 | .box T t r=>.box T t (r.ren ρ)| .loop Y R p=>.loop Y (bD.ren ρ R) p |b=>b
def idx (l:List Nat) (o:Nat):Nat:=go l 0
where
 go:List Nat->Nat->Nat
  |[],n=>n
  |a::l,n=>bif Nat.beq a o then n else go l (n+1)
def has (l:List Nat) (o:Nat):Bool:=match l with
 |[]=>false
 |a::l=>Nat.beq a o||has l o
def jO:Nat->List Nat->List Nat->List aG->HM (List Nat×List aG)
 |0,_,_,_=>.fail
 |_+1,[],done,obs=>.ret (done,obs)
 |n+1,o::todo,done,obs=>bif has done o then jO n todo done obs
  else .rdw o fun b=>jO n (todo++b.ids) (done++[o]) (obs++[b])
abbrev gg:=FuncId->List ae->List aG->DT (ae×List aG)
def DQ (r:ae):HM ae:=match r with
 | .agg l=>(sk l).bind fun d=>.ret (.dat d.t d.x)
 | .own t o=>(fQ (.own t o)).bind fun d=>.ret (.dat d.t d.x)
 | .view t o a b=>(fQ (.view t o a b)).bind fun d=>.ret (.dat d.t d.x)
 | .nils _ t=>.ret (.dat (.list t) [])
 | .clip t xs=>.ret (.dat (.list t) xs)
 |r=>.ret r
def x8 (cx:bS) (f:FuncId):Nat->List ae->HM (List ae)
 |_,[]=>.ret []
 |j,r::l=>(bif cx.rawArg f j then .ret r else DQ r).bind fun fB=>(x8 cx f (j+1) l).bind fun eI=>.ret (fB::eI)
def pW (ρ:Nat->Nat):List Nat->List aG->HM Unit
 |[],[]=>.ret ()
 |[],b::l=>.nw (b.ren ρ) fun _=>pW ρ [] l
 |o::os,b::l=>.wr o (b.ren ρ) (pW ρ os l)
 |_::_,[]=>.fail
def pT (cx:bS) (Γ:gg) (f:FuncId) (args:List ae):HM ae:=
 (x8 cx f 0 args).bind fun args=>(jO 200 (ae.idsL args) [] []).bind fun (done,obs)=>
  (HM.ofDT (Γ f (ae.renL (idx done) args) (obs.map (aG.ren (idx done))))).bind fun (r,aso)=>
   .nxt fun n=>(pW (fun i=>done.getD i (n+(i-done.length))) done aso).bind fun _=>
    .ret (r.ren (fun i=>done.getD i (n+(i-done.length))))
def hC (cx:bS):List TypeId->List ae->List ae
 |T::fW,r::l=>cx.typ T r::hC cx fW l
 |_,l=>l
def Lo (y:Operand):Bool:=match y with
 | .const .nilIface=>true
 |_=>false
structure lC where
 params:List Nat
 assign:Code
 body:Code
 nt:Nat
class Env where
 code:Nat->Option lC
 glob:Nat->List (Option Nat)
section
variable [Env]
def hP (f:Nat):Bool:=(Env.code f).isSome
def lG (cx:bS) (Γ:gg) (o:Oper) (ev:Operand->ae):HM ae:=
 match o.op with
 | .move x=>.ret (cx.typ o.type (ev x))
 | .assign x=>.ret (cx.typ o.type (ev x))
 | .pick c a b=>match kL (ev c) with
  |some t=>.br t (.ret (ev a)) (.ret (ev b))
  |none=>.fail
 | .alloc T=>KJ cx T
 | .box T x=>yl cx T (ev x)
 | .build T ps=>xY cx T (ps.toList.map fun p=>(p.1,ev p.2))
 | .buildSlice T n ps=>AU cx T n (ps.toList.map fun p=>(p.1,ev p.2))
 | .load T a=>yg cx T (ev a)
 | .store T a x=>KT cx T (ev a) (cx.typ T (ev x))
 | .nilCheck x=>match ev x with
  | .ptr o t i p=>.ret (.ptr o t i p)
  | .fptr t x=>.ret (.fptr t x)
  |_=>.fail
 | .binOp b T x y _=>bif Lo y then Lw cx b T (ev x) else Lk cx b T (ev x) (ev y)
 | .unOp b _ x=>LD b (ev x)
 | .convert S T x=>K6 cx S T (ev x)
 | .makeFunc (.func f) a b=>.ret (.fn f (a.toList.map ev) (b.toList.map ev))
 | .makeInterface T x=>match cx.ti T with
  |some i=>bif decide (i.ty=.opq) then .fail else .ret (.iface T (ev x))
  |none=>.fail
 | .makeSlice T l c=>match sg (ev l),sg (ev c) with
  |some l,some c=>IW cx T l c
  |_,_=>.fail
 | .slice T x lo ab eT=>match u6 (lo.map ev),u6 (ab.map ev),u6 (eT.map ev) with
  |some l,some h,some m=>KR cx T (ev x) l h m
  |_,_,_=>.fail
 | .fieldAddr T x f=>IS cx T (ev x) f
 | .field T x f=>KE cx T (ev x) f
 | .indexAddr T x i=>match sg (ev i) with
  |some i=>IU cx T (ev x) i
  |none=>.fail
 | .index T x i=>match sg (ev i) with
  |some i=>KG cx T (ev x) i
  |none=>.fail
 | .range T x=>KW cx T (ev x)
 | .next x b=>bif b then K4 (ev x) else .fail
 | .extract x j=>match ev x with
  | .tup l=>HM.ofOpt l[j]?
  |_=>.fail
 | .call c=>match c.callee with
  | .builtin b=>JP cx b c.argTypes.toList (hC cx c.argTypes.toList (c.args.toList.map ev))
  | .value f=>match ev f with
   | .fn g first jY=>bif hP g then .fail else pT cx Γ g (first++hC cx c.argTypes.toList (c.args.toList.map ev)++jY)
   | .yld Y o=>bif hP Y then pT cx Γ Y (.yld Y o::hC cx c.argTypes.toList (c.args.toList.map ev)) else .fail
   |_=>.fail
  | .invoke x nm=>match ev x with
   | .iface T r=>match cx.ti T with
    |some i=>match tg i.meths nm with
     |some f=>bif hP f then .fail else pT cx Γ f (r::hC cx c.argTypes.toList (c.args.toList.map ev))
     |none=>.fail
    |none=>.fail
   |_=>.fail
 |_=>.fail
def cZ:Nat:=1000000000
def gy (R:bD):Operand->ae
 | .tmp t=>bif Nat.beq t cZ then .undef else (R.get t).getD .undef
 | .const v=>DD v
 | .func f=>.fn f [] []
 | .global g=>match Env.glob g with
  |[]=>.undef
  |l=>.gp g 0 l
def yy (b:Bool) (want:Bool):Bool:=match want with |true=>b |false=> !b
def ke (R:bD) (d:Option Tmp) (r:ae):bD:=match d with
 |some d=>R.put d r
 |none=>R
def refine (R:bD) (d:Nat) (b:Bool):bD:=R.put d (.dat .bool b)
def sc (cx:bS) (Γ:gg) (o:Oper) (st:bn) (nx:Nat):DT (bn×Nat×cI):=
 ((lG cx Γ o (gy st.regs)).run st.heap nx .none).bind fun (r,h,n,p)=>.leaf (⟨ke st.regs o.dst r,h⟩,n,p)
def om (cx:bS) (Γ:gg) (ops:Array Oper) (o:Oper) (st:bn) (nx:Nat):DT (bn×Nat×cI):=
 match o.guard with
 |none=>sc cx Γ o st nx
 |some (j,want)=>match (ops[j]?).bind (·.dst) with
  |some d=>match (st.regs.get d).bind kL with
   |some b=>.br (yy b want) (sc cx Γ o ⟨refine st.regs d want,st.heap⟩ nx) (.leaf (⟨ke (refine st.regs d (!want)) o.dst (.tup []),st.heap⟩,nx,.none))
   |none=>match st.regs.get d with
    |some (.tup [])=>.leaf (⟨ke st.regs o.dst (.tup []),st.heap⟩,nx,.none)
    |_=>.fail
  |none=>.fail
def so:List ae->List ae->Bool
 |[],[]=>true
 | .ptr o t i p::l,.ptr de hb pr p'::m=>Nat.beq o de&&decide (t=hb)&&Nat.beq i pr&&decide (p=p')&&so l m
 |_,_=>false
def rR (o:Nat) (t:aD) (x:t.den):bD->bD
 |[]=>[]
 |(d,.ptr de hb i p)::l=>(d,bif Nat.beq o de&&decide (t=hb)&&Nat.beq i 0&&p.isEmpty then .fptr t x else .ptr de hb i p)::rR o t x l
 |(d,r)::l=>(d,r)::rR o t x l
def KA (c:Call) (o:Oper) (st:bn):DT bn:=
 match c.callee,c.args.toList,o.dst,o.guard,st.regs.get cZ with
 | .value f,[],none,none,some (.dfr g a b t xs)=>match gy st.regs f with
  | .fn Mq [] jY=>match jY.drop a.length with
   | .ptr p u 0 []::bJ=>bif Nat.beq g Mq&&so (jY.take a.length) a&&so bJ b then
     match aF st.heap p with
     | .box _ hp (.dat v x)=>bif decide (u=t)&&decide (hp=t) then .opt (v.cast? t x) fun x=>.leaf ⟨(rR p t x st.regs).put cZ (.dfr g a b t (x::xs)),bL st.heap p .gone⟩ else .fail
     |_=>.fail
    else .fail
   |_=>.fail
  |_=>.fail
 |_,_,_,_,_=>.fail
def mO (cx:bS) (Γ:gg) (ops:Array Oper):List Oper->bn->DT bn
 |[],st=>.leaf st
 |o::l,st=>(match o.op with
  | .defer c=>KA c o st
  |_=>(om cx Γ ops o st st.heap.length).bind fun (aV,_,_)=>.leaf aV).bind fun aV=>mO cx Γ ops l aV
structure lB where
 dst:List Nat
 uses:List Nat
 fp:cI
def pQ (ops:Array Oper) (o:Oper):List Nat:=o.looksAt ops
def m2:List Nat->List Nat->Bool
 |[],_=>true
 |a::l,m=> !has m a&&m2 l m
def lB.apart (a b:lB):Bool:=
 m2 a.dst b.uses&&m2 a.dst b.dst&&m2 a.uses b.dst&&
 m2 a.fp.wr b.fp.rd&&m2 a.fp.wr b.fp.fz&&m2 a.fp.wr b.fp.wr&&m2 a.fp.rd b.fp.wr&&m2 a.fp.fz b.fp.wr
def iR (ops:List Oper):List Nat:=go ops []
where
 go:List Oper->List Nat->List Nat
  |[],acc=>acc
  |o::l,acc=>go l (acc++[o.after.toList.foldl (fun m e=>bif Region.binds .any e then m ||| (1 <<< e.on) ||| acc.getD e.on 0 else m) 0])
def r5 (qp:List Nat):Nat->List lB->Bool
 |_,[]=>true
 |i,n::l=>go i n (i+1) l&&r5 qp (i+1) l
where
 go (i:Nat) (n:lB):Nat->List lB->Bool
  |_,[]=>true
  |j,m::l=>((qp.getD j 0).testBit i||n.apart m)&&go i n (j+1) l
def slotsOf:Nat:=4
def D7 (L:Nat) (p:cI):Bool:=p.rd.all (Nat.blt · L)&&p.fz.all (Nat.blt · L)&&p.wr.all (Nat.blt · L)
def uF:Nat->List Oper->Bool
 |_,[]=>true
 |i,o::l=>o.after.toList.all (fun e=> !Region.binds .any e||Nat.blt e.on i)&&uF (i+1) l
def ye (cx:bS) (Γ:gg) (ops:Array Oper) (base L:Nat):Nat->List Oper->bn->List lB->DT (bn×List lB)
 |_,[],st,ns=>.leaf (st,ns)
 |i,o::l,st,ns=>(om cx Γ ops o st (base+slotsOf*i)).bind fun (aV,n,fp)=>
  bif Nat.ble n (base+slotsOf*i+slotsOf)&&D7 L fp then ye cx Γ ops base L (i+1) l aV (ns++[⟨o.dst.toList,pQ ops o,fp⟩]) else .fail
def KC (cx:bS) (Γ:gg) (ops:Array Oper) (draw:Bool) (st:bn):DT bn:=
 bif draw then
  (ye cx Γ ops st.heap.length (st.heap.length+slotsOf*ops.size) 0 ops.toList ⟨st.regs,st.heap++List.replicate (slotsOf*ops.size) .hole⟩ []).bind fun (aV,ns)=>
   bif r5 (iR ops.toList) 0 ns&&uF 0 ops.toList then .leaf aV else .fail
 else mO cx Γ ops ops.toList st
inductive dv where
 |nrm |exit (id:Nat)|ret
def rO (ks:List Nat):bD->bD
 |[]=>[]
 |(d,r)::l=>bif has ks d then (d,r)::rO ks l else rO ks l
structure ba where
 cx:bS
 Γ:gg
 Λ:Nat->bn->DT (dv×bn)
 keep:Nat->Option (List Nat)
 m:Nat
 rfs:Nat->Option Nat:=fun _=>none
 its:List Nat:=[]
 dfr:Nat->Option (FuncId×List Nat×List Nat×aD):=fun _=>none
def nK:Code->Option Nat
 | .region id _ _=>some id
 | .seq a _=>nK a
 | .scope c=>nK c
 | .cond _ a _=>(nK a).map (· +100000)
 | .block _ c=>(nK c).map (· +200000)
 |_=>none
def Gc (a b:Code):Nat:=match nK a with
 |some i=>i
 |none=>(nK b).getD 0
def oW:Code->List Nat
 | .region _ ops _=>ops.toList.flatMap (pQ ops)
 | .seq a b=>oW a++oW b
 | .cond c a b=>(match c with | .tmp t=>[t] |_=>[])++(oW a++oW b)
 | .block _ c=>oW c
 | .loop c=>oW c
 | .scope c=>oW c
 |_=>[]
def qe:Code->List Nat
 | .seq a b=>qe a++qe b
 | .cond _ a b=>qe a++qe b
 | .block id c=>(qe c).filter fun i=> !Nat.beq i id
 | .loop c=>qe c
 | .scope c=>qe c
 | .exit i=>[i]
 |_=>[]
def l4:dv->Int
 | .nrm=>0 | .ret=>1 | .exit i=>2+(i:Int)
def yo:List dv->Int->bn->DT (dv×bn)
 |[],_,_=>.fail
 |e::l,p,st=>.br (decide (p=l4 e)) (.leaf (e,st)) (yo l p st)
def r8 (R:bD):List Nat->bD
 |[]=>[]
 |d::us=>bif has us d||Nat.beq d cZ then r8 R us else match R.get d with
  |some r=>(d,r)::r8 R us
  |none=>r8 R us
def ya:bD->HM bD
 |[]=>.ret []
 |(d,r)::l=>(DQ r).bind fun fB=>(ya l).bind fun eI=>.ret ((d,fB)::eI)
def Q6 (F:ba) (Y:Nat) (f:FuncId) (jY:List ae) (R:bD):HM Int:=
 (ya R).bind fun R=>.nw (.loop Y R 0) fun o=>(pT F.cx F.Γ f (.yld Y o::jY)).bind fun _=>.rdw o fun b=>match b with
  | .loop _ _ p=>.wr o .gone (.ret p)
  |_=>.fail
def LF (F:ba) (Y:Nat) (g:Operand) (us L7:List Nat) (st:bn):DT (dv×bn):=
 match gy st.regs g with
 | .fn f [] jY=>bif has F.its f&& !hP f&&(st.regs.get cZ).isNone then
   ((Q6 F Y f jY (r8 st.regs us)).run st.heap st.heap.length .none).bind fun (p,h,_,_)=>yo (.nrm:: .ret::L7.map .exit) p ⟨st.regs,h⟩
  else .fail
 |_=>.fail
def uW (R:bD):List Nat->Option (List ae)
 |[]=>some []
 |d::l=>match R.get d with
  |some r=>(uW R l).map (r:: ·)
  |none=>none
def LC (F:ba) (id:Nat) (st:bn):DT bn:=match F.dfr id with
 |none=>.leaf st
 |some (f,us,vs,t)=>match st.regs.get cZ,uW st.regs us,uW st.regs vs with
  |some (.tup []),some a,some b=>.leaf ⟨st.regs.put cZ (.dfr f a b t []),st.heap⟩
  |_,_,_=>.fail
def e0 (F:ba):Code->Nat->bn->DT (dv×bn)
 | .skip,_,st=>.leaf (.nrm,st)
 | .region id ops draw,_,st=>(KC F.cx F.Γ ops draw st).bind fun st=>match F.keep id with
  |some ks=>.leaf (.nrm,⟨rO ks st.regs,st.heap⟩)
  |none=>(LC F id st).bind fun st=>.leaf (.nrm,st)
 | .seq a b,k,st=>(e0 F a k st).bind fun (e,aV)=>match e with
  | .nrm=>e0 F b k aV
  |e=>.leaf (e,aV)
 | .cond c a b,k,st=>match kL (gy st.regs c) with
  |some t=>match c with
   | .tmp d=>.br t (e0 F a k ⟨refine st.regs d true,st.heap⟩) (e0 F b k ⟨refine st.regs d false,st.heap⟩)
   |_=>.br t (e0 F a k st) (e0 F b k st)
  |none=>.fail
 | .block id c,_,st=>(e0 F c id st).bind fun (e,aV)=>match e with
  | .exit i=>bif Nat.beq i id then .leaf (.nrm,aV) else .leaf (.exit i,aV)
  |e=>.leaf (e,aV)
 | .loop _,k,st=>F.Λ k st
 | .rangeFunc g _ a b,_,st=>match F.rfs (Gc a b) with
  |some Y=>LF F Y g (oW a++oW b) (qe b) st
  |none=>.fail
 | .exit id,_,st=>.leaf (.exit id,st)
 | .ret,_,st=>.leaf (.ret,st)
 | .scope c,k,st=>e0 F c k st
 | .label _,_,st=>.leaf (.nrm,st)
 |_,_,_=>.fail
def eV:Nat->List ae->bD
 |_,[]=>[]
 |i,r::l=>(i,r)::eV (i+1) l
def kf (cx:bS) (R:bD):Nat->List ResultVar->HM bD
 |_,[]=>.ret []
 |j,v::l=>(match v with
   | .tmp t=>HM.ret (gy R (.tmp t))
   | .cell a T=>yg cx T (gy R (.tmp a))).bind fun r=>(kf cx R (j+1) l).bind fun eI=>.ret ((j,r)::eI)
def jv:Nat->List Nat
 |0=>[]
 |n+1=>jv n++[n]
inductive b4 where
 |dat (t:aD)
 |clip (t:aD)
 |own (t:aD) (o:Nat)
 |ptr (o:Nat) (t:aD) (i:Nat) (p:List Nat)
 |agg (l:List b4)
 |fn (f:FuncId) (first jY:List b4)
 |iface (T:TypeId) (r:b4)
 |nilI |nilF |nilP |undef
 |nils (e:TypeId) (t:aD)
 |yld (Y:Nat) (o:Nat)
 |dfr (f:FuncId) (a b:List b4) (t:aD)
inductive dm where
 |arr (e:TypeId) (t:aD) (fz:Bool)
 |box (T:TypeId) (t:aD) (r:b4)
 |iter
 |gone
 |loop (Y:Nat) (R:List (Nat×b4))
structure Shape where
 regs:List (Nat×b4)
 objs:List dm
mutual
def b4.holes:b4->List aD
 | .dat t=>[t] | .clip t=>[.list t] | .agg l=>b4.holesL l | .fn _ a b=>b4.holesL a++b4.holesL b | .iface _ r=>r.holes | .dfr _ a b t=>b4.holesL a++(b4.holesL b++[.list t])|_=>[]
def b4.holesL:List b4->List aD
 |[]=>[] |s::l=>s.holes++b4.holesL l
end
def dm.holes:dm->List aD
 | .arr _ t _=>[.list t] | .box _ _ r=>r.holes | .iter=>[.str,.int .i64] | .gone=>[] | .loop _ R=>R.flatMap (fun p=>p.2.holes)++[.int .i64]
def chain:List aD->aD
 |[]=>.unit |t::l=>.pair t (chain l)
def Shape.ty (S:Shape):aD:=chain (S.regs.flatMap (fun p=>p.2.holes)++S.objs.flatMap dm.holes)
def kP (t:aD):List dN->Option (t.den×List dN)
 |[]=>none
 |d::l=>(d.t.cast? t d.x).map fun x=>(x,l)
mutual
def b4.enc:b4->List dN->Option (ae×List dN)
 | .dat t,l=>(kP t l).map fun p=>(.dat t p.1,p.2)
 | .clip t,l=>(kP (.list t) l).map fun p=>(.clip t p.1,p.2)
 | .own t o,l=>some (.own t o,l)
 | .ptr o t i p,l=>some (.ptr o t i p,l)
 | .agg s,l=>(b4.encL s l).map fun p=>(.agg p.1,p.2)
 | .fn f a b,l=>match b4.encL a l with
  |some (bc,l)=>(b4.encL b l).map fun p=>(.fn f bc p.1,p.2)
  |none=>none
 | .iface T r,l=>(r.enc l).map fun p=>(.iface T p.1,p.2)
 | .dfr f a b t,l=>match b4.encL a l with
  |some (bc,l)=>match b4.encL b l with
   |some (bJ,l)=>(kP (.list t) l).map fun p=>(.dfr f bc bJ t p.1,p.2)
   |none=>none
  |none=>none
 | .nilI,l=>some (.nilI,l)| .nilF,l=>some (.nilF,l)| .nilP,l=>some (.nilP,l)| .undef,l=>some (.undef,l)| .nils e t,l=>some (.nils e t,l)| .yld Y o,l=>some (.yld Y o,l)
def b4.encL:List b4->List dN->Option (List ae×List dN)
 |[],l=>some ([],l)
 |s::r,l=>match s.enc l with
  |some (x,l)=>(b4.encL r l).map fun p=>(x::p.1,p.2)
  |none=>none
end
def ov:List (Nat×b4)->List dN->Option (bD×List dN)
 |[],l=>some ([],l)
 |(d,s)::r,l=>match s.enc l with
  |some (x,l)=>(ov r l).map fun p=>((d,x)::p.1,p.2)
  |none=>none
def dm.enc:dm->List dN->Option (aG×List dN)
 | .arr e t fz,l=>(kP (.list t) l).map fun p=>(.arr e t p.1 fz,p.2)
 | .box T t r,l=>(r.enc l).map fun p=>(.box T t p.1,p.2)
 | .iter,l=>match kP .str l with
  |some (s,l)=>(kP (.int .i64) l).map fun p=>(.iter s p.1,p.2)
  |none=>none
 | .gone,l=>some (.gone,l)
 | .loop Y R,l=>match ov R l with
  |some (R',l)=>(kP (.int .i64) l).map fun p=>(.loop Y R' p.1,p.2)
  |none=>none
def uT:List dm->List dN->Option (List aG×List dN)
 |[],l=>some ([],l)
 |s::r,l=>match s.enc l with
  |some (x,l)=>(uT r l).map fun p=>(x::p.1,p.2)
  |none=>none
def Shape.enc (S:Shape) (s:S.ty.den):bn:=
 match ov S.regs (S.ty.parts s) with
 |some (R,l)=>match uT S.objs l with
  |some (H,_)=>⟨R,H⟩
  |none=>⟨[],[]⟩
 |none=>⟨[],[]⟩
mutual
def b4.dec:b4->ae->Option (List dN)
 | .dat t,.dat u x=>bif decide (u=t) then some [⟨u,x⟩] else none
 | .clip t,.clip u x=>bif decide (u=t) then some [⟨.list u,x⟩] else none
 | .own t o,.own u de=>bif decide (u=t)&&Nat.beq o de then some [] else none
 | .ptr o t i p,.ptr de hb pr p'=>bif Nat.beq o de&&decide (t=hb)&&Nat.beq i pr&&decide (p=p') then some [] else none
 | .agg l,.agg r=>b4.decL l r
 | .fn f a b,.fn g x y=>bif Nat.beq f g then match b4.decL a x with
   |some l=>(b4.decL b y).map fun m=>l++m
   |none=>none
  else none
 | .iface T r,.iface U s=>bif Nat.beq T U then r.dec s else none
 | .dfr f a b t,.dfr g x y u xs=>bif Nat.beq f g&&decide (u=t) then match b4.decL a x with
   |some l=>match b4.decL b y with
    |some m=>some (l++(m++[⟨.list u,xs⟩]))
    |none=>none
   |none=>none
  else none
 | .nilI,.nilI=>some [] | .nilF,.nilF=>some [] | .nilP,.nilP=>some [] | .undef,.undef=>some []
 | .yld Y o,.yld p7 de=>bif Nat.beq Y p7&&Nat.beq o de then some [] else none
 | .nils e t,.nils dx hb=>bif Nat.beq e dx&&decide (t=hb) then some [] else none
 |_,_=>none
def b4.decL:List b4->List ae->Option (List dN)
 |[],[]=>some []
 |s::l,r::m=>match s.dec r with
  |some a=>(b4.decL l m).map fun b=>a++b
  |none=>none
 |_,_=>none
end
def hA:List (Nat×b4)->bD->Option (List dN)
 |[],[]=>some []
 |(d,s)::l,(e,r)::m=>bif Nat.beq d e then match s.dec r with
   |some a=>(hA l m).map fun b=>a++b
   |none=>none
  else none
 |_,_=>none
def dm.dec:dm->aG->Option (List dN)
 | .arr e t fz,.arr dx u xs ja=>bif Nat.beq e dx&&decide (u=t)&&decide (fz=ja) then some [⟨.list u,xs⟩] else none
 | .box T t r,.box Ce hb s=>bif Nat.beq T Ce&&decide (t=hb) then r.dec s else none
 | .iter,.iter s pos=>some [⟨.str,s⟩,⟨.int .i64,pos⟩]
 | .gone,.gone=>some []
 | .loop Y R,.loop p7 R' p=>bif Nat.beq Y p7 then (hA R R').map fun l=>l++[⟨.int .i64,p⟩] else none
 |_,_=>none
def eW:List dm->List aG->Option (List dN)
 |[],[]=>some []
 |s::l,b::m=>match s.dec b with
  |some a=>(eW l m).map fun c=>a++c
  |none=>none
 |_,_=>none
def uE:(lv:List aD)->List dN->Option (chain lv).den
 |[],[]=>some ()
 |t::lv,d::l=>match d.t.cast? t d.x,uE lv l with
  |some x,some y=>some (x,y)
  |_,_=>none
 |_,_=>none
def Shape.dec (S:Shape) (st:bn):Option S.ty.den:=
 match hA S.regs st.regs,eW S.objs st.heap with
 |some a,some b=>uE _ (a++b)
 |_,_=>none
mutual
def ym:b4->ae->HM ae
 | .dat t,r=>(u7 t r).bind fun x=>.ret (.dat t x)
 | .own _ _,.nils e t=>.nw (.arr e t [] false) fun o=>.ret (.own t o)
 | .own _ _,.view t o 0 ab=>.rdw o fun b=>match b with
  | .arr e u xs false=>.wr o .gone (.nw (.arr e u (xs.take ab) false) fun o=>.ret (.own u o))
  |_=>.fail
 | .own _ _,.view t o lo ab=>.rdw o fun b=>match b with
  | .arr e u xs false=>bif decide (u=t) then .wr o .gone (.nw (.arr e u ((xs.take ab).drop lo) false) fun o=>.ret (.own u o)) else .fail
  |_=>.fail
 | .agg l,.agg m=>(DC l m).bind fun m=>.ret (.agg m)
 |_,r=>.ret r
def DC:List b4->List ae->HM (List ae)
 |s::l,r::m=>(ym s r).bind fun r=>(DC l m).bind fun m=>.ret (r::m)
 |_,m=>.ret m
end
def BR:List (Nat×b4)->bD->HM bD
 |[],_=>.ret []
 |(d,s)::l,R=>match R.get d with
  |some r=>(ym s r).bind fun r=>(BR l R).bind fun R'=>.ret ((d,r)::R')
  |none=>.fail
def pF:List Nat->List dm->HM Unit
 |o::l,.box _ _ s::m=>.rdw o fun b=>match b with
  | .box _ _ r=>(ym s r).bind fun r=>.rdw o fun b=>match b with
   | .box T t _=>bif r.fits t then .wr o (.box T t r) (pF l m) else .fail
   |_=>.fail
  |_=>.fail
 |o::l,.arr _ _ true::m=>.rdw o fun b=>match b with
  | .arr ..=>.frz o (pF l m)
  |_=>.fail
 |o::l,.gone::m=>.rdw o fun b=>match b with
  | .arr ..=>.wr o .gone (pF l m)
  |_=>pF l m
 |_::l,_::m=>pF l m
 |_,_=>.ret ()
def tQ:List dm->Nat->HM (List (Nat×Nat))
 |[],_=>.ret []
 | .gone::l,o=>.rdw o fun b=>match b with
  | .arr e t xs fz=>.wr o .gone (.nw (.arr e t xs fz) fun n=>(tQ l (o+1)).bind fun q=>.ret ((o,n)::q))
  |_=>tQ l (o+1)
 |_::l,o=>tQ l (o+1)
def fwd:List (Nat×Nat)->Nat->Nat
 |[],i=>i
 |(o,n)::l,i=>bif Nat.beq i o then n else fwd l i
def uB (ρ:Nat->Nat):List Nat->HM Unit
 |[]=>.ret ()
 |o::l=>.rdw o fun b=>match b with
  | .box T t r=>.wr o (.box T t (r.ren ρ)) (uB ρ l)
  |_=>uB ρ l
def D4 (S:Shape) (m:Nat) (R:bD):HM bn:=
 (BR S.regs R).bind fun R=>(jO 200 (jv m++R.ids) [] []).bind fun p=>(pF p.1 S.objs).bind fun _=>
  (jO 200 (jv m++R.ids) [] []).bind fun q=>.ret ⟨R.ren (idx q.1),q.2.map (aG.ren (idx q.1))⟩
def yD (S:Shape) (m:Nat) (R:bD):HM bn:=
 (tQ (S.objs.take m) 0).bind fun q=>match q with
  |[]=>D4 S m R
  |q=>(jO 200 (jv m++R.ids) [] []).bind fun p=>(uB (fwd q) p.1).bind fun _=>D4 S m (R.ren (fwd q))
def Shape.take (S:Shape) (m:Nat) (st:bn):DT S.ty.den:=
 ((yD S m st.regs).run st.heap st.heap.length .none).bind fun (aV,_,_,_)=>DT.ofOpt (S.dec aV)
def dv.is:dv->dv->Bool
 | .nrm,.nrm=>true | .ret,.ret=>true | .exit i,.exit j=>Nat.beq i j |_,_=>false
structure bA where
 S:Shape
 x:dv
 X:Shape
 y:dv
 Y:Shape
abbrev bA.Out (L:bA):Type:=L.X.ty.den⊕L.Y.ty.den
def bA.out (L:bA) (m:Nat) (e:dv) (st:bn):DT L.Out:=
 bif e.is L.x then (L.X.take m st).bind fun x=>.leaf (.inl x) else bif e.is L.y then (L.Y.take m st).bind fun y=>.leaf (.inr y) else .fail
def bA.body (L:bA) (F:ba) (c:Code) (k:Nat) (s:L.S.ty.den):DT (L.S.ty.den⊕L.Out):=
 (e0 F c k (L.S.enc s)).bind fun (e,st)=>match e with
  | .nrm=>(L.S.take F.m st).bind fun s=>.leaf (.inl s)
  |e=>(L.out F.m e st).bind fun o=>.leaf (.inr o)
def bA.go (L:bA) (f:L.S.ty.den->Option L.Out) (m:Nat) (st:bn):DT (dv×bn):=
 (L.S.take m st).bind fun s=>.alt (f s) (fun x=>.leaf (L.x,L.X.enc x)) (fun y=>.leaf (L.y,L.Y.enc y))
def dR {σ ρ:Type} (b:σ->Option (σ⊕ρ)):Nat->σ->Option ρ
 |0,_=>none
 |n+1,s=>match b s with
  |some (.inl t)=>dR b n t
  |some (.inr r)=>some r
  |none=>none
def jV:Nat:=1000000000000000000000000
def bM {σ ρ:Type} (b:σ->Option (σ⊕ρ)) (s:σ):Option ρ:=dR b jV s
structure aS where
 f:FuncId
 S:Shape
 Z:Shape
 g:S.ty.den->Option Z.ty.den
def iE:bD->ae
 |[(_,r)]=>r
 |l=>.tup (l.map (·.2))
def k5 (F:ba) (fn:Func) (S Z:Shape) (s:S.ty.den):DT Z.ty.den:=
 (e0 F (fn.body.getD .skip) 0 (S.enc s)).bind fun (e,st)=>match e with
  | .exit _=>.fail
  |_=>((kf F.cx st.regs 0 fn.results.toList).run st.heap st.heap.length .none).bind fun (R,h,_,_)=>Z.take F.m ⟨R,h⟩
def uK:List Nat->List ae->bD->bD
 |p::ps,r::rs,R=>uK ps rs (R.put p r)
 |_,_,R=>R
def dv.isNrm:dv->Bool
 | .nrm=>true |_=>false
def Lm (Y:Nat) (e:dv) (st:bn):DT bn:=match aF st.heap 0 with
 | .loop Cr R p=>bif Nat.beq Cr Y then .br (decide (p= -1)) (.leaf ⟨[(0,.dat .bool e.isNrm)],bL st.heap 0 (.loop Y R (l4 e))⟩) .fail else .fail
 |_=>.fail
def qf (F:ba) (C:ba->Code->Nat->bn->DT (dv×bn)) (Y:Nat) (c:lC) (S Z:Shape) (s:S.ty.den):DT Z.ty.den:=
 match (S.enc s).regs,(S.enc s).heap with
 |(_,.yld _ 0)::args,.loop nI R p::H=>bif Nat.beq nI Y then .br (decide (p=0))
  (match (uK c.params (args.map (·.2)) R).get cZ with
  |some _=>.fail
  |none=>(C F c.assign 0 ⟨uK c.params (args.map (·.2)) R,.loop nI R p::H⟩).bind fun (e,st)=>match e with
   | .nrm=>match aF st.heap 0 with
    | .loop mi R p=>bif Nat.beq mi Y then .br (decide (p=0)) ((C F c.body 0 ⟨st.regs,bL st.heap 0 (.loop Y R (-1))⟩).bind fun (e,st)=>(Lm Y e st).bind fun st=>Z.take F.m st) .fail else .fail
    |_=>.fail
   |_=>.fail) .fail else .fail
 |_,_=>.fail
def r3 (L:bA) (m:Nat) (Fd:ba) (fd:FuncId) (fn:Func) (s:L.S.ty.den):DT (L.S.ty.den⊕L.Out):=
 match (L.S.enc s).regs.get cZ with
 |some (.dfr f a b t xs)=>bif Nat.beq f fd&&Nat.ble (a.length+b.length+1) fn.ntmps then .br xs.isEmpty ((L.X.take m ⟨(L.S.enc s).regs,(L.S.enc s).heap⟩).bind fun x=>.leaf (.inr (.inl x)))
  (.opt xs.head? fun x=>(e0 Fd (fn.body.getD .skip) 0 ⟨(eV 0 (a++ .fptr t x::b)).put cZ (.tup []),(L.S.enc s).heap⟩).bind fun (e,st)=>match e,st.regs.get cZ with
   | .exit _,_=>.fail
   |_,some (.tup [])=>(L.S.take m ⟨(L.S.enc s).regs.put cZ (.dfr f a b t xs.tail),st.heap⟩).bind fun s=>.leaf (.inl s)
   |_,_=>.fail) else .fail
 |_=>.fail
def D3 (F:ba) (fn:Func) (S Z:Shape) (s:S.ty.den):DT Z.ty.den:=
 (e0 F (fn.body.getD .skip) 0 ⟨(S.enc s).regs.put cZ (.tup []),(S.enc s).heap⟩).bind fun (e,st)=>match e with
  | .exit _=>.fail
  |_=>(F.Λ cZ st).bind fun (_,st)=>((kf F.cx st.regs 0 fn.results.toList).run st.heap st.heap.length .none).bind fun (R,h,_,_)=>Z.take F.m ⟨R,h⟩
def aS.run (E:aS) (s:E.S.ty.den):DT (ae×List aG):=.opt (E.g s) fun z=>.leaf (iE (E.Z.enc z).regs,(E.Z.enc z).heap)
def gi:List aS->gg
 |[],_,_,_=>.fail
 |E::l,f,args,H=>bif Nat.beq f E.f then match E.S.dec ⟨eV 0 args,H⟩ with
   |some s=>E.run s
   |none=>gi l f args H
  else gi l f args H
end
def dF:Code->Nat->List (Nat×Code)
 | .seq a b,k=>dF a k++dF b k
 | .cond _ a b,k=>dF a k++dF b k
 | .block id c,_=>dF c id
 | .loop c,k=>(k,c)::dF c k
 | .scope c,k=>dF c k
 |_,_=>[]
def bK (fn:Func):Code:=fn.body.getD .skip
def ip (c:Code) (i:Nat):Code:=((dF c 0).getD i (0,.skip)).2
def jS (n:Nat):Code->List (Nat×lC)
 | .seq a b=>jS n a++jS n b
 | .cond _ a b=>jS n a++jS n b
 | .block _ c=>jS n c
 | .loop c=>jS n c
 | .scope c=>jS n c
 | .rangeFunc _ ps a b=>[(Gc a b,⟨ps.toList,a,b,n⟩)]
 |_=>[]
def iI (fn:Func) (i:Nat):lC:=((jS fn.ntmps (bK fn)).getD i (0,⟨[],.skip,.skip,0⟩)).2
def Ra (fn:Func) (i:Nat):Code:=.seq (iI fn i).assign (iI fn i).body
open Go.RowKit
abbrev bw:=Nat->Nat->Prop
def iT (φ:bw) (w:World) (b o:Nat) (cs:List Value):Prop:= ∀i v,cs[i]? =some v->φ b (o+i)/\w.cell? ⟨b,o+i,none⟩=some v
def cw {α:Type} (R:α->List Value->Prop):List α->List Value->Prop
 |[],cs=>cs=[]
 |x::xs,cs=> ∃a7 aY,cs=a7++aY/\R x a7/\cw R xs aY
def bg (φ:bw) (w:World):(t:aD)->t.den->List Value->Prop
 | .bool,x,cs=>cs=[.bool x]
 | .int k,x,cs=>cs=[.int k x]
 | .str,x,cs=>cs=[.string ⟨⟨x⟩⟩]
 | .opq,_,_=>False
 | .unit,_,cs=>cs=[]
 | .list t,xs,cs=> ∃A n c,cs=[.slice A n c]/\xs.length=n/\n<=c/\(n=0\/ ∃b o aT,A=some ⟨b,o,none⟩/\iT φ w b o aT/\cw (bg φ w t) xs aT)
 | .pair a b,x,cs=> ∃a7 aY,cs=a7++aY/\bg φ w a x.1 a7/\bg φ w b x.2 aY
theorem iT.mono {φ φ':bw} {w w':World} {b o:Nat} {cs:List Value} (aP: ∀b k,φ b k->φ' b k) (aB: ∀b k,φ b k->w'.cell? ⟨b,k,none⟩=w.cell? ⟨b,k,none⟩) (h:iT φ w b o cs):iT φ' w' b o cs:=
 fun i v ab=>let ⟨aa,ad⟩:=h i v ab;⟨aP _ _ aa,(aB _ _ aa).trans ad⟩
theorem cw.imp {α:Type} {R R':α->List Value->Prop} (h: ∀x c,R x c->R' x c): ∀(xs:List α) (cs:List Value),cw R xs cs->cw R' xs cs
 |[],_,e=>e
 |_::xs,_,⟨a7,aY,e,r,k⟩=>⟨a7,aY,e,h _ _ r,cw.imp h xs aY k⟩
theorem bg.mono {φ φ':bw} {w w':World} (aP: ∀b k,φ b k->φ' b k) (aB: ∀b k,φ b k->w'.cell? ⟨b,k,none⟩=w.cell? ⟨b,k,none⟩):
  ∀(t:aD) (x:t.den) (cs:List Value),bg φ w t x cs->bg φ' w' t x cs
 | .bool,_,_,h=>h | .int _,_,_,h=>h | .str,_,_,h=>h | .opq,_,_,h=>h | .unit,_,_,h=>h
 | .list t,xs,cs,⟨A,n,c,e,ao,aQ,h⟩=>⟨A,n,c,e,ao,aQ,h.imp id fun ⟨b,o,aT,e,aR,av⟩=>⟨b,o,aT,e,aR.mono aP aB,av.imp fun x c=>bg.mono aP aB t x c⟩⟩
 | .pair a b,x,cs,⟨a7,aY,e,aa,ad⟩=>⟨a7,aY,e,bg.mono aP aB a _ _ aa,bg.mono aP aB b _ _ ad⟩
theorem bg.len {φ:bw} {w:World}: ∀(t:aD) (x:t.den) (cs:List Value),bg φ w t x cs->cs.length=t.size
 | .bool,_,_,h=>by simp[bg]at h;simp[h,aD.size]
 | .int _,_,_,h=>by simp[bg]at h;simp[h,aD.size]
 | .str,_,_,h=>by simp[bg]at h;simp[h,aD.size]
 | .opq,_,_,h=>h.elim
 | .unit,_,_,h=>by simp[bg]at h;simp[h,aD.size]
 | .list t,xs,cs,⟨A,n,c,e,_⟩=>by simp[e,aD.size]
 | .pair a b,x,cs,⟨a7,aY,e,aa,ad⟩=>by simp[e,aD.size,bg.len a _ _ aa,bg.len b _ _ ad]
theorem bg.one {φ:bw} {w:World}: ∀(t:aD) (x:t.den) (cs:List Value),bg φ w t x cs-> ∀v∈cs,v.oneCell'=true
 | .bool,_,_,h=>by simp[bg]at h;simp[h];rfl
 | .int _,_,_,h=>by simp[bg]at h;simp[h];rfl
 | .str,_,_,h=>by simp[bg]at h;simp[h];rfl
 | .opq,_,_,h=>h.elim
 | .unit,_,_,h=>by simp[bg]at h;simp[h]
 | .list t,xs,cs,⟨A,n,c,e,_⟩=>by simp[e];rfl
 | .pair a b,x,cs,⟨a7,aY,e,aa,ad⟩=>by
  subst e;intro v aX;rcases List.mem_append.1 aX with aX |aX
  ·exact bg.one a _ _ aa v aX
  ·exact bg.one b _ _ ad v aX
section chunks
variable {α:Type} {R:α->List Value->Prop} {s:Nat}
theorem cw.len (au: ∀x c,R x c->c.length=s): ∀(xs:List α) (cs:List Value),cw R xs cs->cs.length=xs.length*s
 |[],_,e=>by simp[cw]at e;simp[e]
 |_::xs,_,⟨a7,aY,e,r,k⟩=>by simp[e,au _ _ r,cw.len au xs aY k,Nat.add_mul,Nat.add_comm]
theorem cw.get (au: ∀x c,R x c->c.length=s): ∀(xs:List α) (cs:List Value),cw R xs cs-> ∀i x,xs[i]? =some x->R x ((cs.drop (i*s)).take s)
 |[],_,_,i,x,aw=>by simp at aw
 |y::xs,_,⟨a7,aY,e,r,k⟩,i,x,aw=>by
  subst e;cases i with
  |zero=>
   simp at aw;subst aw;have:=au _ _ r;subst this;simpa using r
  |succ i=>
   have z1:xs[i]? =some x:=by simpa using aw
   have:=cw.get au xs aY k i x z1;rw[show (i+1)*s=a7.length+i*s by rw[au _ _ r,Nat.add_mul];omega,<-List.drop_drop,List.drop_left];exact this
theorem cw.append: ∀(xs aT:List α) (cs eh:List Value),cw R xs cs->cw R aT eh->cw R (xs++aT) (cs++eh)
 |[],_,_,_,e,h=>by simp[cw]at e;subst e;simpa using h
 |_::xs,aT,_,eh,⟨a7,aY,e,r,k⟩,h=>⟨a7,aY++eh,by simp[e],r,cw.append xs aT aY eh k h⟩
theorem cw.drop (au: ∀x c,R x c->c.length=s): ∀(i:Nat) (xs:List α) (cs:List Value),cw R xs cs->cw R (xs.drop i) (cs.drop (i*s))
 |0,xs,cs,h=>by simpa using h
 |i+1,[],cs,h=>by simp[cw]at h ⊢;simp[h]
 |i+1,_::xs,_,⟨a7,aY,e,r,k⟩=>by
  subst e;have ai:(a7++aY).drop ((i+1)*s)=aY.drop (i*s):=by
   rw[show (i+1)*s=a7.length+i*s by rw[au _ _ r,Nat.add_mul];omega,<-List.drop_drop,List.drop_left]
  rw[ai];exact cw.drop au i xs aY k
theorem cw.take (au: ∀x c,R x c->c.length=s): ∀(i:Nat) (xs:List α) (cs:List Value),cw R xs cs->cw R (xs.take i) (cs.take (i*s))
 |0,xs,cs,h=>by simp[cw]
 |i+1,[],cs,h=>by simp[cw]at h ⊢;simp[h]
 |i+1,_::xs,_,⟨a7,aY,e,r,k⟩=>by
  subst e;refine ⟨a7,aY.take (i*s),?_,r,cw.take au i xs aY k⟩;rw[show (i+1)*s=a7.length+i*s by rw[au _ _ r,Nat.add_mul];omega,List.take_length_add_append]
theorem cw.set (au: ∀x c,R x c->c.length=s): ∀(xs:List α) (cs:List Value),cw R xs cs-> ∀(i:Nat) (x:α) (c:List Value),i<xs.length->R x c->cw R (xs.set i x) (cs.take (i*s)++c++cs.drop (i*s+s))
 |[],_,_,i,x,c,ab,_=>by simp at ab
 |y::xs,_,⟨a7,aY,e,r,k⟩,i,x,c,ab,az=>by
  subst e;cases i with
  |zero=>
   refine ⟨c,aY,?_,az,k⟩;have:=au _ _ r;subst this;simp
  |succ i=>
   have aO:=cw.set au xs aY k i x c (by simpa using ab) az;refine ⟨a7,_,?_,r,aO⟩;have ai:(i+1)*s=a7.length+i*s:=by rw[au _ _ r,Nat.add_mul];omega
   rw[ai,List.take_length_add_append,show a7.length+i*s+s=a7.length+(i*s+s) by omega,<-List.drop_drop,List.drop_left];simp
theorem cw.replicate {x:α} {c:List Value} (az:R x c): ∀n,cw R (List.replicate n x) ((List.replicate n c).flatten)
 |0=>by simp[cw]
 |n+1=>⟨c,(List.replicate n c).flatten,by simp[List.replicate_succ],az,cw.replicate az n⟩
end chunks
def iy:Value->Bool
 | .agg _=>true |_=>false
def cd (φ:bw) (w:World) (t:aD) (x:t.den) (v:Value):Prop:=bg φ w t x v.cells.toList/\iy v=t.isAgg
theorem pE {v:Value} (h:iy v=false):v.cells= #[v]:=by cases v<;>first |rfl |(simp[iy]at h)
theorem sf {v:Value} (h:iy v=true): ∃cs,v=.agg cs:=by cases v<;>first |exact ⟨_,rfl⟩|(simp[iy]at h)
theorem cd.int {φ:bw} {w:World} {k:IntKind} {x:Int} {v:Value}:cd φ w (.int k) x v↔v=.int k x:=by
 constructor
 ·rintro ⟨aa,ad⟩;rw[pE ad]at aa;simpa [bg] using aa
 ·rintro rfl;exact ⟨rfl,rfl⟩
theorem cd.bool {φ:bw} {w:World} {x:Bool} {v:Value}:cd φ w .bool x v↔v=.bool x:=by
 constructor
 ·rintro ⟨aa,ad⟩;rw[pE ad]at aa;simpa [bg] using aa
 ·rintro rfl;exact ⟨rfl,rfl⟩
theorem cd.str {φ:bw} {w:World} {x:List UInt8} {v:Value}:cd φ w .str x v↔v=.string ⟨⟨x⟩⟩:=by
 constructor
 ·rintro ⟨aa,ad⟩;rw[pE ad]at aa;simpa [bg] using aa
 ·rintro rfl;exact ⟨rfl,rfl⟩
theorem cd.list {φ:bw} {w:World} {t:aD} {xs:List t.den} {v:Value} (h:cd φ w (.list t) xs v):
  ∃A n c,v=.slice A n c/\xs.length=n/\n<=c/\(n=0\/ ∃b o aT,A=some ⟨b,o,none⟩/\iT φ w b o aT/\cw (bg φ w t) xs aT):=by
 obtain ⟨aa,ad⟩:=h;rw[pE ad]at aa;obtain ⟨A,n,c,e,h⟩:=aa;exact ⟨A,n,c,by simpa using e,h⟩
def k9:Option Nat->Value
 |some f=>.func (.func f) #[] #[] |none=>.nilFunc
mutual
def ae.rel (φ:bw) (ι:Nat->Value) (w:World):ae->Value->Prop
 | .undef,_=>True
 | .dat t x,v=>cd φ w t x v
 | .clip t xs,v=> ∃A n,v=.slice A n n/\bg φ w (.list t) xs [v]
 | .nilv,v=>v=.slice none 0 0
 | .nils _ _,v=>v=.slice none 0 0
 | .own _ o,v=>v=ι o/\ ∃A n c,v=.slice A n c
 | .view t o lo ab,v=> ∃A n c A',ι o=.slice A n c/\lo<=ab/\ab<=n/\n<=c/\v=.slice A' (ab-lo) (c-lo)/\(c≠lo->A'=A.map (·.add (lo*t.size)))/\(c≠0-> ∃b k,A=some ⟨b,k,none⟩)
 | .ptr o t i p,v=> ∃b k,((∃n c,ι o=.slice (some ⟨b,k,none⟩) n c/\i<n)\/(ι o=.pointer (some ⟨b,0,none⟩)/\i=0/\k=0))/\v=.pointer (some ⟨b,k+i*t.size+t.offAt p,none⟩)/\(t.at_ p).isSome
 | .fptr t x,v=> ∃b o cs,v=.pointer (some ⟨b,o,none⟩)/\iT φ w b o cs/\bg φ w t x cs
 | .agg l,v=> ∃cs,v=.agg cs/\ae.relL φ ι w l cs.toList
 | .tup l,v=> ∃vs,v=.tuple vs/\ae.relT φ ι w l vs.toList
 | .fn f a b,v=> ∃x y,v=.func (.func f) x y/\ae.relT φ ι w a x.toList/\ae.relT φ ι w b y.toList
 | .iface T r,v=> ∃u,v=.iface T u/\r.rel φ ι w u
 | .nilI,v=>v=.nilIface
 | .nilF,v=>v=.nilFunc
 | .nilP,v=>v=.pointer none
 | .lim t xs c,v=> ∃A n,v=.slice A n c/\bg φ w (.list t) xs [v]
 | .atl n,v=> ∃c:Nat,v=.int .i64 (c:Int)/\n<=c
 | .yld _ o,v=>v=ι o/\ ∃l,v=.func (.yield l) #[] #[]
 | .gp b off l,v=>v=.pointer (some ⟨b,off,none⟩)/\iT φ w b off (l.map k9)
 | .dfr f a b t xs,v=> ∃vs:List Value,v=.tuple vs.toArray/\vs.length=xs.length/\ ∀(i:Nat) (x:t.den) (u:Value),xs[i]? =some x->vs[i]? =some u-> ∃a7 jZ aY,u=.func (.func f) #[] (a7++jZ::aY).toArray/\ae.relT φ ι w a a7/\(∃et o cs,jZ=.pointer (some ⟨et,o,none⟩)/\iT φ w et o cs/\bg φ w t x cs)/\ae.relT φ ι w b aY
def ae.relL (φ:bw) (ι:Nat->Value) (w:World):List ae->List Value->Prop
 |[],cs=>cs=[]
 |r::l,cs=> ∃v aY,cs=v.cells.toList++aY/\r.rel φ ι w v/\ae.relL φ ι w l aY
def ae.relT (φ:bw) (ι:Nat->Value) (w:World):List ae->List Value->Prop
 |[],vs=>vs=[]
 |r::l,vs=> ∃v m,vs=v::m/\r.rel φ ι w v/\ae.relT φ ι w l m
end
def c1:Value->Option Nat
 | .slice (some a) _ c=>if c=0 then none else some a.block
 | .pointer (some a)=>some a.block
 | .func (.yield l) _ _=>some l
 |_=>none
def qo:Value->Nat
 | .slice (some a) _ _=>a.off
 |_=>0
def aG.owns:aG->Bool
 | .arr ..=>true | .box ..=>true | .iter ..=>true | .loop ..=>true |_=>false
def aG.live:aG->Bool
 | .hole=>false |_=>true
def qG (fr:Nat×Nat) (n:Nat):Prop:= ∀k,k<n-> ¬(fr.1<=k/\k<fr.2)
structure vt (t:aD) (fr:Nat×Nat) (n:Nat):Prop where
 ok:qG fr n
 last:t=.int .u8\/ ¬(fr.1<=n/\n<fr.2)
instance {t:aD} {fr:Nat×Nat} {n:Nat}:CoeFun (vt t fr n) fun _=> ∀k,k<n-> ¬(fr.1<=k/\k<fr.2):=⟨vt.ok⟩
structure Cells (φ:bw) (w:World) (t:aD) (n:Nat) (cur:Array Value):Prop where
 one: ∀v∈cur.toList,v.oneCell'=true
 rest:t=.int .u8\/ ∃zs:List t.den,cw (bg φ w t) zs (cur.toList.drop (n*t.size))
instance {φ:bw} {w:World} {t:aD} {n:Nat} {cur:Array Value}:CoeFun (Cells φ w t n cur) fun _=> ∀v,v∈cur.toList->v.oneCell'=true:=⟨Cells.one⟩
theorem Cells.mono {φ φ':bw} {w w':World} {t:aD} {n:Nat} {cur:Array Value} (aP: ∀b k,φ b k->φ' b k) (aB: ∀b k,φ b k->w'.cell? ⟨b,k,none⟩=w.cell? ⟨b,k,none⟩) (h:Cells φ w t n cur):Cells φ' w' t n cur:=
 ⟨h.one,h.rest.imp id fun ⟨zs,bz⟩=>⟨zs,bz.imp fun x c=>bg.mono aP aB t x c⟩⟩
theorem Cells.all {φ:bw} {w:World} {t:aD} {n:Nat} {cur:Array Value} {xs:List t.den} (h:Cells φ w t n cur) (av:cw (bg φ w t) xs (cur.toList.take (n*t.size))):t=.int .u8\/ ∃zs:List t.den,cw (bg φ w t) (xs++zs) cur.toList:=
 h.rest.imp id fun ⟨zs,bz⟩=>⟨zs,by have:=cw.append _ _ _ _ av bz;rwa [List.take_append_drop]at this⟩
theorem Cells.at_ {φ:bw} {w:World} {t:aD} {n:Nat} {cur:Array Value} {xs:List t.den} (h:Cells φ w t n cur) (av:cw (bg φ w t) xs (cur.toList.take (n*t.size))) (j:Nat):t=.int .u8\/ ∃zs:List t.den,cw (bg φ w t) zs (cur.toList.drop (j*t.size)):=
 (h.all av).imp id fun ⟨zs,bz⟩=>⟨_,bz.drop (fun x c=>bg.len t x c) j⟩
theorem JK {α:Type} {l news:List α} {a d:Nat} (aR:a<=l.length) (ax:a+news.length<=d):(l.take a++news++l.drop (a+news.length)).drop d=l.drop d:=by
 rw[List.drop_append,List.drop_of_length_le (by simp;omega),List.nil_append,List.drop_drop];congr 1;simp;omega
def L6:dv->Code
 | .nrm=>.skip | .ret=>.ret | .exit i=>.exit i
def Qh (rec:Loop) (p:Int):Prop:=
 (p=0/\rec.state=.ready/\rec.pending=none)\/(p= -1/\rec.state=.busy)\/ ∃e:dv,p=l4 e/\e≠ .nrm/\rec.state=.done/\rec.pending=some (L6 e)
structure DY [Env] (φ:bw) (ι:Nat->Value) (w:World) (l:Nat) (rec:Loop) (c:lC) (Y:Nat) (R:bD) (p:Int):Prop where
 code:Env.code Y=some c
 heap:w.heap[l]? =some (.loop rec)
 params:rec.params.toList=c.params
 assign:rec.assign=c.assign
 body:rec.body=c.body
 nt:rec.tmps.size=c.nt
 st:Qh rec p
 regs: ∀q∈R,q.2.rel φ ι w (rec.tmps.getD q.1 undef)
 phi: ∀k,¬φ l k
section
variable [Env]
def hS (φ:bw) (ι:Nat->Value) (w:World) (o:Nat):aG->Prop
 | .hole=>True
 | .gone=>True
 | .arr e t xs fz=> ∃A n c,ι o=.slice A n c/\xs.length=n/\n<=c/\c<=maxLen/\(c=0\/
   ∃b pre cur fr,A=some ⟨b,pre.size,none⟩/\w.heap[b]? =some (.cells (pre++cur) e fr)/\cur.size=c*t.size/\vt t fr (pre.size+cur.size)/\(∀v∈pre.toList,v.oneCell'=true)/\Cells φ w t n cur/\
    cw (bg φ w t) xs (cur.toList.take (n*t.size))/\(∀k,φ b k->fz=true/\pre.size<=k/\k<pre.size+n*t.size)/\(fz=true-> ∀k,k<n*t.size->φ b (pre.size+k)))
 | .box T t r=> ∃b cur fr v,ι o=.pointer (some ⟨b,0,none⟩)/\w.heap[b]? =some (.cells cur T fr)/\cur.size=t.size/\qG fr cur.size/\(∀v∈cur.toList,v.oneCell'=true)/\
    r.rel φ ι w v/\v.cells=cur/\r.fits t=true/\(∀k,¬φ b k)
 | .iter s pos=> ∃(b n:Nat),ι o=.pointer (some ⟨b,0,none⟩)/\w.heap[b]? =some (.stringIter ⟨⟨s⟩⟩ n)/\pos=n/\(∀k,¬φ b k)
 | .loop Y R p=> ∃(l:Nat) (rec:Loop) (c:lC),ι o=.func (.yield l) #[] #[]/\DY φ ι w l rec c Y R p
def ig (ι:Nat->Value) (H:List aG) (b:Nat):Prop:= ∃o,(aF H o).owns=true/\c1 (ι o)=some b
structure bP (φ:bw) (ι:Nat->Value) (w:World) (H:List aG):Prop where
 obj: ∀o,hS φ ι w o (aF H o)
 apart: ∀o de b,(aF H o).owns=true->(aF H de).owns=true->c1 (ι o)=some b->c1 (ι de)=some b->o=de
 phi: ∀b k,φ b k-> ∃v,w.cell? ⟨b,k,none⟩=some v
 ids: ∀o,∀i∈(aF H o).ids,(aF H i).live=true
 glob: ∀g,iT φ w g 0 ((Env.glob g).map k9)
theorem bP.idsB {φ:bw} {ι:Nat->Value} {w:World} {H:List aG} (h:bP φ ι w H) (o:Nat) (T:TypeId) (t:aD) (r:ae) (ag:aF H o=.box T t r) (i:Nat) (ab:i∈r.ids):(aF H i).live=true:=h.ids o i (by rw[ag];exact ab)
end
structure Step (φ:bw) (ι:Nat->Value) (w:World) (H:List aG) (φ':bw) (ι':Nat->Value) (w':World) (aC:List aG):Prop where
 phi: ∀b k,φ b k->φ' b k
 cells: ∀b k,φ b k->w'.cell? ⟨b,k,none⟩=w.cell? ⟨b,k,none⟩
 newphi: ∀b k,φ' b k->φ b k\/w.heap.size<=b\/ig ι H b
 size:w.heap.size<=w'.heap.size
 os:w'.os=w.os
 tape:w'.tape=w.tape
 output:w'.output=w.output
 blocks: ∀b,b<w.heap.size-> ¬ig ι H b->w'.heap[b]? =w.heap[b]?
 own: ∀b,ig ι' aC b->w.heap.size<=b\/ig ι H b
structure dA (ι:Nat->Value) (H:List aG) (ι':Nat->Value) (aC:List aG):Prop where
 iota: ∀o,(aF H o).live=true->ι' o=ι o
 live: ∀o,(aF H o).live=true->(aF aC o).live=true
theorem dA.refl (ι:Nat->Value) (H:List aG):dA ι H ι H:=⟨fun _ _=>rfl,fun _ h=>h⟩
theorem dA.trans {ι ι' gf:Nat->Value} {H aC kV:List aG} (h:dA ι H ι' aC) (k:dA ι' aC gf kV):dA ι H gf kV:=
 ⟨fun o an=>(k.iota o (h.live o an)).trans (h.iota o an),fun o an=>k.live o (h.live o an)⟩
theorem Step.refl (φ:bw) (ι:Nat->Value) (w:World) (H:List aG):Step φ ι w H φ ι w H:=
 ⟨fun _ _ h=>h,fun _ _ _=>rfl,fun _ _ h=>.inl h,Nat.le_refl _,rfl,rfl,rfl,fun _ _ _=>rfl,fun _ h=>.inr h⟩
theorem Step.trans {φ:bw} {ι:Nat->Value} {w:World} {H:List aG} {φ':bw} {ι':Nat->Value} {w':World} {aC:List aG} {BU:bw} {gf:Nat->Value} {Bm:World} {kV:List aG}
  (h:Step φ ι w H φ' ι' w' aC) (k:Step φ' ι' w' aC BU gf Bm kV):Step φ ι w H BU gf Bm kV where
 phi b i ag:=k.phi b i (h.phi b i ag)
 cells b i ag:=(k.cells b i (h.phi b i ag)).trans (h.cells b i ag)
 newphi b i ag:=by
  rcases k.newphi b i ag with aa |aa |aa
  ·exact h.newphi b i aa
  ·exact .inr (.inl (Nat.le_trans h.size aa))
  ·exact .inr (h.own b aa)
 size:=Nat.le_trans h.size k.size
 os:=k.os.trans h.os
 tape:=k.tape.trans h.tape
 output:=k.output.trans h.output
 blocks b ag an:=by
  have aQ: ¬ig ι' aC b:=fun aB=>(h.own b aB).elim (fun aa=>by omega) an
  rw[k.blocks b (Nat.lt_of_lt_of_le ag h.size) aQ];exact h.blocks b ag an
 own b ag:=by
  rcases k.own b ag with aa |aa
  ·exact .inl (Nat.le_trans h.size aa)
  ·exact h.own b aa
theorem cd.mono {φ φ':bw} {w w':World} (aP: ∀b k,φ b k->φ' b k) (aB: ∀b k,φ b k->w'.cell? ⟨b,k,none⟩=w.cell? ⟨b,k,none⟩) {t:aD} {x:t.den} {v:Value} (h:cd φ w t x v):cd φ' w' t x v:=
 ⟨bg.mono aP aB _ _ _ h.1,h.2⟩
mutual
theorem ae.rel_mono {φ φ':bw} {ι ι':Nat->Value} {w w':World} (aP: ∀b k,φ b k->φ' b k) (aB: ∀b k,φ b k->w'.cell? ⟨b,k,none⟩=w.cell? ⟨b,k,none⟩):
  ∀(r:ae) (v:Value),(∀i∈r.ids,ι' i=ι i)->r.rel φ ι w v->r.rel φ' ι' w' v
 | .undef,_,_,_=>trivial
 | .dat t x,v,_,h=>cd.mono aP aB h
 | .clip t xs,v,_,⟨A,n,e,h⟩=>⟨A,n,e,bg.mono aP aB _ _ _ h⟩
 | .nilv,_,_,h=>h
 | .nils _ _,_,_,h=>h
 | .own t o,v,ab,h=>by simp only[ae.rel]at h ⊢;rw[ab o (by simp[ae.ids])];exact h
 | .view t o lo hi',v,ab,h=>by simp only[ae.rel]at h ⊢;rw[ab o (by simp[ae.ids])];exact h
 | .ptr o t i p,v,ab,h=>by simp only[ae.rel]at h ⊢;rw[ab o (by simp[ae.ids])];exact h
 | .fptr t x,v,_,⟨b,o,cs,e,aa,ad⟩=>⟨b,o,cs,e,aa.mono aP aB,bg.mono aP aB _ _ _ ad⟩
 | .agg l,v,ab,⟨cs,e,h⟩=>⟨cs,e,ae.relL_mono aP aB l _ (fun i h=>ab i (by simpa [ae.ids] using h)) h⟩
 | .tup l,v,ab,⟨cs,e,h⟩=>⟨cs,e,ae.relT_mono aP aB l _ (fun i h=>ab i (by simpa [ae.ids] using h)) h⟩
 | .fn f a b,v,ab,⟨x,y,e,aa,ad⟩=>⟨x,y,e,ae.relT_mono aP aB a _ (fun i h=>ab i (by simp[ae.ids,h])) aa,ae.relT_mono aP aB b _ (fun i h=>ab i (by simp[ae.ids,h])) ad⟩
 | .iface T r,v,ab,⟨u,e,h⟩=>⟨u,e,ae.rel_mono aP aB r u (fun i h=>ab i (by simpa [ae.ids] using h)) h⟩
 | .nilI,_,_,h=>h
 | .nilF,_,_,h=>h
 | .nilP,_,_,h=>h
 | .atl _,_,_,h=>h
 | .lim t xs c,v,_,⟨A,n,e,h⟩=>⟨A,n,e,bg.mono aP aB _ _ _ h⟩
 | .yld Y o,v,ab,h=>by simp only[ae.rel]at h ⊢;rw[ab o (by simp[ae.ids])];exact h
 | .gp b off l,v,_,⟨e,h⟩=>⟨e,h.mono aP aB⟩
 | .dfr f a b t xs,v,ab,⟨vs,e,ao,h⟩=>⟨vs,e,ao,fun i x u aw hu=>
   let ⟨a7,jZ,aY,ai,aa,⟨et,o,cs,aq,ad,al⟩,aE⟩:=h i x u aw hu
   ⟨a7,jZ,aY,ai,ae.relT_mono aP aB a _ (fun i h=>ab i (by simp[ae.ids,h])) aa,⟨et,o,cs,aq,ad.mono aP aB,bg.mono aP aB _ _ _ al⟩,ae.relT_mono aP aB b _ (fun i h=>ab i (by simp[ae.ids,h])) aE⟩⟩
theorem ae.relL_mono {φ φ':bw} {ι ι':Nat->Value} {w w':World} (aP: ∀b k,φ b k->φ' b k) (aB: ∀b k,φ b k->w'.cell? ⟨b,k,none⟩=w.cell? ⟨b,k,none⟩):
  ∀(l:List ae) (cs:List Value),(∀i∈ae.idsL l,ι' i=ι i)->ae.relL φ ι w l cs->ae.relL φ' ι' w' l cs
 |[],_,_,h=>h
 |r::l,_,ab,⟨v,aY,e,aa,ad⟩=>⟨v,aY,e,ae.rel_mono aP aB r v (fun i h=>ab i (by simp[ae.idsL,h])) aa,ae.relL_mono aP aB l aY (fun i h=>ab i (by simp[ae.idsL,h])) ad⟩
theorem ae.relT_mono {φ φ':bw} {ι ι':Nat->Value} {w w':World} (aP: ∀b k,φ b k->φ' b k) (aB: ∀b k,φ b k->w'.cell? ⟨b,k,none⟩=w.cell? ⟨b,k,none⟩):
  ∀(l:List ae) (vs:List Value),(∀i∈ae.idsL l,ι' i=ι i)->ae.relT φ ι w l vs->ae.relT φ' ι' w' l vs
 |[],_,_,h=>h
 |r::l,_,ab,⟨v,aY,e,aa,ad⟩=>⟨v,aY,e,ae.rel_mono aP aB r v (fun i h=>ab i (by simp[ae.idsL,h])) aa,ae.relT_mono aP aB l aY (fun i h=>ab i (by simp[ae.idsL,h])) ad⟩
end
theorem ae.rel_step {φ:bw} {ι:Nat->Value} {w:World} {H:List aG} {φ':bw} {ι':Nat->Value} {w':World} {aC:List aG} {r:ae} {v:Value}
  (s:Step φ ι w H φ' ι' w' aC) (k:dA ι H ι' aC) (ao: ∀i∈r.ids,(aF H i).live=true) (h:r.rel φ ι w v):r.rel φ' ι' w' v:=
 ae.rel_mono s.phi s.cells r v (fun i ab=>k.iota i (ao i ab)) h
open Go.RowKit
theorem DT.val_bind {α β:Type} (x:DT α) (f:α->DT β):(x.bind f).val=x.val.bind fun a=>(f a).val:=by
 induction x with
 |leaf a=>rfl
 |fail=>rfl
 |br b x y hM hN=>simp only[DT.bind,DT.val,hM,hN];cases b<;>rfl
 |opt o k aO=>cases o with
  |none=>rfl
  |some r=>simp only[DT.bind,DT.val];exact aO r
 |alt o k h nr N5=>cases o with
  |none=>rfl
  |some r=>cases r with
   |inl r=>simp only[DT.bind,DT.val];exact nr r
   |inr r=>simp only[DT.bind,DT.val];exact N5 r
theorem DT.val_bind_some {α β:Type} {x:DT α} {f:α->DT β} {b:β} (h:(x.bind f).val=some b): ∃a,x.val=some a/\(f a).val=some b:=by
 rw[DT.val_bind]at h;exact Option.bind_eq_some_iff.1 h
theorem DT.val_ofOpt {α:Type} (o:Option α):(DT.ofOpt o).val=o:=by cases o<;>rfl
namespace HM
variable {α β:Type}
def go:HM α->List aG->Nat->Option (α×List aG×Nat)
 |ret a,h,n=>some (a,h,n)
 |fail,_,_=>none
 |br b x y,h,n=>bif b then x.go h n else y.go h n
 |opt o k,h,n=>match o with |some r=>(k r).go h n |none=>none
 |alt o k l,h,n=>match o with |some (.inl r)=>(k r).go h n |some (.inr r)=>(l r).go h n |none=>none
 |rdc o k,h,n=>(k (aF h o).mask).go h n
 |frz o k,h,n=>k.go (bL h o (aF h o).freeze) n
 |rdw o k,h,n=>(k (aF h o)).go h n
 |wr o b k,h,n=>k.go (bL h o b) n
 |nw b k,h,n=>(k n).go (bL h n b) (n+1)
 |nxt k,h,n=>(k n).go h n
theorem go_run (x:HM α): ∀(h:List aG) (n:Nat) (p:cI) (a:α) (ca:List aG) (aI:Nat) (p':cI),(x.run h n p).val=some (a,ca,aI,p')->x.go h n=some (a,ca,aI):=by
 induction x with
 |ret a=>intro h n p a ca aI p' e;simp only[run,DT.val,bs,ct]at e;obtain ⟨rfl,rfl,rfl,_⟩:=e;rfl
 |fail=>intro h n p a ca aI p' e;simp[run,DT.val]at e
 |br b x y hM hN=>
  intro h n p a ca aI p' e;simp only[run,DT.val]at e;cases b
  ·exact hN _ _ _ _ _ _ _ e
  ·exact hM _ _ _ _ _ _ _ e
 |opt o k aO=>
  intro h n p a ca aI p' e;cases o with
  |none=>simp[run,DT.val]at e
  |some r=>exact aO r _ _ _ _ _ _ _ e
 |alt o k l nr s0=>
  intro h n p a ca aI p' e;cases o with
  |none=>simp[run,DT.val]at e
  |some r=>cases r with
   |inl r=>exact nr r _ _ _ _ _ _ _ e
   |inr r=>exact s0 r _ _ _ _ _ _ _ e
 |rdc o k aO=>intro h n p a ca aI p' e;exact aO _ _ _ _ _ _ _ _ e
 |frz o k aO=>intro h n p a ca aI p' e;exact aO _ _ _ _ _ _ _ e
 |rdw o k aO=>intro h n p a ca aI p' e;exact aO _ _ _ _ _ _ _ _ e
 |wr o b k aO=>intro h n p a ca aI p' e;exact aO _ _ _ _ _ _ _ e
 |nw b k aO=>intro h n p a ca aI p' e;exact aO _ _ _ _ _ _ _ _ e
 |nxt k aO=>intro h n p a ca aI p' e;exact aO _ _ _ _ _ _ _ _ e
theorem go_bind (x:HM α) (f:α->HM β): ∀(h:List aG) (n:Nat),(x.bind f).go h n=(x.go h n).bind fun q=>(f q.1).go q.2.1 q.2.2:=by
 induction x with
 |ret a=>intro h n;rfl
 |fail=>intro h n;rfl
 |br b x y hM hN=>intro h n;simp only[bind,go,hM,hN];cases b<;>rfl
 |opt o k aO=>intro h n;cases o with
  |none=>rfl
  |some r=>exact aO r h n
 |alt o k l nr s0=>intro h n;cases o with
  |none=>rfl
  |some r=>cases r with
   |inl r=>exact nr r h n
   |inr r=>exact s0 r h n
 |rdc o k aO=>intro h n;exact aO _ h n
 |frz o k aO=>intro h n;exact aO _ n
 |rdw o k aO=>intro h n;exact aO _ h n
 |wr o b k aO=>intro h n;exact aO _ n
 |nw b k aO=>intro h n;exact aO _ _ _
 |nxt k aO=>intro h n;exact aO _ h n
theorem go_bind_some {x:HM α} {f:α->HM β} {h:List aG} {n:Nat} {r:β×List aG×Nat} (e:(x.bind f).go h n=some r): ∃a aa cC,x.go h n=some (a,aa,cC)/\(f a).go aa cC=some r:=by
 rw[go_bind]at e;obtain ⟨q,aN,az⟩:=Option.bind_eq_some_iff.1 e;exact ⟨q.1,q.2.1,q.2.2,aN,az⟩
theorem go_ofOpt (o:Option α) (h:List aG) (n:Nat):(ofOpt o).go h n=o.map fun a=>(a,h,n):=by cases o<;>rfl
theorem go_ofDT (x:DT α) (h:List aG) (n:Nat):(ofDT x).go h n=x.val.map fun a=>(a,h,n):=by
 induction x with
 |leaf a=>rfl
 |fail=>rfl
 |br b x y hM hN=>simp only[ofDT,go,DT.val,hM,hN];cases b<;>rfl
 |opt o k aO=>cases o with
  |none=>rfl
  |some r=>exact aO r
 |alt o k h nr N5=>cases o with
  |none=>rfl
  |some r=>cases r with
   |inl r=>exact nr r
   |inr r=>exact N5 r
theorem go_chk {b:Bool} {x:HM α} {h:List aG} {n:Nat} {r:α×List aG×Nat} (e:(chk b x).go h n=some r):b=true/\x.go h n=some r:=by
 cases b
 ·simp[chk,go]at e
 ·exact ⟨rfl,e⟩
end HM
theorem fk (H:List aG) (o:Nat) (b:aG) (i:Nat) (an:o<=H.length):aF (bL H o b) i=if i=o then b else aF H i:=by
 unfold aF
 induction H generalizing o i with
 |nil=>
  have:o=0:=by simpa using an
  subst this;cases i with
  |zero=>rfl
  |succ i=>simp[bL]
 |cons a l aO=>
  cases o with
  |zero=>cases i<;>simp[bL]
  |succ o=>
   cases i with
   |zero=>simp[bL]
   |succ i=>
    have:=aO o i (by simpa using an);simpa [bL] using this
theorem gK (H:List aG) (o:Nat) (b:aG) (an:o<H.length):(bL H o b).length=H.length:=by
 induction H generalizing o with
 |nil=>simp at an
 |cons a l aO=>cases o with
  |zero=>rfl
  |succ o=>simpa [bL] using aO o (by simpa using an)
theorem rk (H:List aG) (b:aG):(bL H H.length b).length=H.length+1:=by
 induction H with
 |nil=>rfl
 |cons a l aO=>simpa [bL] using aO
theorem fl {H:List aG} {o:Nat} (h:(aF H o).live=true):o<H.length:=by
 rcases Nat.lt_or_ge o H.length with aa |aa
 ·exact aa
 ·simp[aF,List.getD_eq_getElem?_getD,List.getElem?_eq_none aa,aG.live]at h
theorem bD.mem_ids {R:bD} {q:Nat×ae} (h:q∈R): ∀i∈q.2.ids,i∈R.ids:=by
 induction R with
 |nil=>cases h
 |cons p l aO=>
  intro i ab;simp only[bD.ids,List.mem_append];rcases List.mem_cons.1 h with rfl |h
  ·exact .inl ab
  ·exact .inr (aO h i ab)
theorem bD.ids_mem {R:bD} {i:Nat} (h:i∈R.ids): ∃q∈R,i∈q.2.ids:=by
 induction R with
 |nil=>simp[bD.ids]at h
 |cons p l aO=>
  simp only[bD.ids,List.mem_append]at h;rcases h with h |h
  ·exact ⟨p,by simp,h⟩
  ·obtain ⟨q,aa,ad⟩:=aO h;exact ⟨q,by simp[aa],ad⟩
theorem hS.keep [Env] {φ φ':bw} {ι ι':Nat->Value} {w w':World} {o:Nat} {ob:aG} (aP: ∀b k,φ b k->φ' b k) (aB: ∀b k,φ b k->w'.cell? ⟨b,k,none⟩=w.cell? ⟨b,k,none⟩)
  (ab:ob.live=true->ι' o=ι o) (eu: ∀i∈ob.ids,ι' i=ι i) (ag: ∀b,ob.owns=true->c1 (ι o)=some b->w'.heap[b]? =w.heap[b]? /\ ∀k,φ' b k->φ b k) (h:hS φ ι w o ob):hS φ' ι' w' o ob:=by
 cases ob with
 |hole=>trivial
 |gone=>trivial
 |arr e t xs fz=>
  obtain ⟨A,n,c,ai,aq,bb,bx,h⟩:=h;refine ⟨A,n,c,(ab rfl).trans ai,aq,bb,bx,?_⟩;rcases h with h |⟨b,pre,cur,fr,rfl,aa,ad,al,bX,aE,aZ,bt,dn⟩
  ·exact .inl h
  ·by_cases fO:c=0
   ·exact .inl fO
   ·obtain ⟨bC,sR⟩:=ag b rfl (by rw[ai];simp[c1,fO]);exact .inr ⟨b,pre,cur,fr,rfl,bC.trans aa,ad,al,bX,aE.mono aP aB,aZ.imp fun x c=>bg.mono aP aB t x c,fun k av=>bt k (sR k av),fun bz k av=>aP _ _ (dn bz k av)⟩
 |box T t r=>
  obtain ⟨b,cur,fr,v,ai,aa,ad,al,aE,aZ,bt,dn,hX⟩:=h;obtain ⟨bC,sR⟩:=ag b rfl (by rw[ai];rfl);exact ⟨b,cur,fr,v,(ab rfl).trans ai,bC.trans aa,ad,al,aE,ae.rel_mono aP aB r v eu aZ,bt,dn,fun k av=>hX k (sR k av)⟩
 |iter s pos=>
  obtain ⟨b,n,ai,aa,ad,al⟩:=h;obtain ⟨bC,sR⟩:=ag b rfl (by rw[ai];rfl);exact ⟨b,n,(ab rfl).trans ai,bC.trans aa,ad,fun k av=>al k (sR k av)⟩
 |loop Y R p=>
  obtain ⟨l,rec,c,ai,aa⟩:=h;obtain ⟨bC,sR⟩:=ag l rfl (by rw[ai];rfl);exact ⟨l,rec,c,(ab rfl).trans ai,⟨aa.code,bC.trans aa.heap,aa.params,aa.assign,aa.body,aa.nt,aa.st,fun q aN=>ae.rel_mono aP aB q.2 _ (fun i ab=>eu i (bD.mem_ids aN i ab)) (aa.regs q aN),fun k av=>aa.phi k (sR k av)⟩⟩
theorem hS.blk_arr [Env] {φ:bw} {ι:Nat->Value} {w:World} {o:Nat} {e:TypeId} {t:aD} {xs:List t.den} {fz:Bool} (h:hS φ ι w o (.arr e t xs fz)) {b:Nat} (ag:c1 (ι o)=some b):
  ∃n c pre cur fr,ι o=.slice (some ⟨b,pre.size,none⟩) n c/\xs.length=n/\n<=c/\c<=maxLen/\c≠0/\w.heap[b]? =some (.cells (pre++cur) e fr)/\cur.size=c*t.size/\vt t fr (pre.size+cur.size)/\(∀v∈pre.toList,v.oneCell'=true)/\Cells φ w t n cur/\
    cw (bg φ w t) xs (cur.toList.take (n*t.size))/\(∀k,φ b k->fz=true/\pre.size<=k/\k<pre.size+n*t.size)/\(fz=true-> ∀k,k<n*t.size->φ b (pre.size+k)):=by
 obtain ⟨A,n,c,ai,aq,bb,bx,h⟩:=h;rw[ai]at ag;rcases h with h |⟨bJ,pre,cur,fr,rfl,h⟩
 ·subst h;cases A<;>simp[c1]at ag
 ·by_cases fO:c=0
  ·subst fO;simp[c1]at ag
  ·have:bJ=b:=by simpa [c1,fO] using ag
   subst this;exact ⟨n,c,pre,cur,fr,ai,aq,bb,bx,fO,h⟩
structure ee [Env] (φ:bw) (ι:Nat->Value) (w:World) (H:List aG) (φ':bw) (aC:List aG):Prop where
 rel:bP φ' ι w aC
 step:Step φ ι w H φ' ι w aC
 live: ∀o,(aF aC o).live=(aF H o).live
 len:aC.length=H.length
theorem ee.refl [Env] {φ:bw} {ι:Nat->Value} {w:World} {H:List aG} (h:bP φ ι w H):ee φ ι w H φ H:=⟨h,Step.refl _ _ _ _,fun _=>rfl,rfl⟩
theorem ee.keep [Env] {φ:bw} {ι:Nat->Value} {w:World} {H:List aG} {φ':bw} {aC:List aG} (g:ee φ ι w H φ' aC):dA ι H ι aC:=⟨fun _ _=>rfl,fun o h=>(g.live o).trans h⟩
theorem ee.trans [Env] {φ:bw} {ι:Nat->Value} {w:World} {H:List aG} {φ':bw} {aC:List aG} {BU:bw} {kV:List aG} (g:ee φ ι w H φ' aC) (k:ee φ' ι w aC BU kV):ee φ ι w H BU kV:=
 ⟨k.rel,g.step.trans k.step,fun o=>(k.live o).trans (g.live o),k.len.trans g.len⟩
theorem alT (b:aG):b.freeze.live=b.live:=by cases b<;>rfl
theorem alU (b:aG):b.freeze.owns=b.owns:=by cases b<;>rfl
theorem IT [Env] {φ:bw} {ι:Nat->Value} {w:World} {H:List aG} (h:bP φ ι w H) (o:Nat) (an:o<H.length):
  ∃φ',ee φ ι w H φ' (bL H o (aF H o).freeze)/\(∀e t xs fz,aF H o=.arr e t xs fz-> ∀b k,c1 (ι o)=some b->k<xs.length*t.size->φ' b (qo (ι o)+k)):=by
 have bo: ∀i,aF (bL H o (aF H o).freeze) i=if i=o then (aF H o).freeze else aF H i:=fun i=>fk H o _ i (Nat.le_of_lt an)
 by_cases gk: ∃e t xs fz,aF H o=.arr e t xs fz
 ·obtain ⟨e,t,xs,fz,aR⟩:=gk;have bY:=h.obj o;rw[aR]at bY
  let φ':bw:=fun b k=>φ b k\/(c1 (ι o)=some b/\qo (ι o)<=k/\k<qo (ι o)+xs.length*t.size)
  have aP: ∀b k,φ b k->φ' b k:=fun b k ag=>.inl ag
  have lj: ∀i,(aF (bL H o (aF H o).freeze) i).owns=(aF H i).owns:=fun i=>by
   rw[bo];split
   ·rename_i ab;subst ab;exact alU _
   ·rfl
  have ei: ∀i,(aF (bL H o (aF H o).freeze) i).live=(aF H i).live:=fun i=>by
   rw[bo];split
   ·rename_i ab;subst ab;exact alT _
   ·rfl
  have mD: ∀b,ig ι (bL H o (aF H o).freeze) b↔ig ι H b:=fun b=>by simp only[ig,lj]
  refine ⟨φ',⟨⟨?_,?_,?_,?_,fun g=>(h.glob g).mono aP (fun _ _ _=>rfl)⟩,⟨aP,fun _ _ _=>rfl,?_,Nat.le_refl _,rfl,rfl,rfl,fun _ _ _=>rfl,fun b ag=>.inr ((mD b).1 ag)⟩,ei,gK H o _ an⟩,?_⟩
  ·intro i;rw[bo];split
   ·rename_i ab;subst ab;rw[aR];obtain ⟨A,n,c,ai,aq,bb,bx,bC⟩:=bY;refine ⟨A,n,c,ai,aq,bb,bx,?_⟩;rcases bC with bC |⟨b,pre,cur,fr,rfl,aa,ad,al,bX,aE,aZ,bt,dn⟩
    ·exact .inl bC
    ·by_cases fO:c=0
     ·exact .inl fO
     ·have h9:c1 (ι i)=some b:=by rw[ai];simp[c1,fO]
      have vA:qo (ι i)=pre.size:=by rw[ai];rfl
      refine .inr ⟨b,pre,cur,fr,rfl,aa,ad,al,bX,aE.mono aP (fun _ _ _=>rfl),aZ.imp fun x c=>bg.mono aP (fun _ _ _=>rfl) t x c,?_,?_⟩
      ·rintro k (av |⟨jf,jg⟩)
       ·exact ⟨rfl,(bt k av).2⟩
       ·rw[vA,aq]at jg;exact ⟨rfl,jg⟩
      ·exact fun _ k av=>.inr ⟨h9,by rw[vA,aq];omega⟩
   ·rename_i ab;refine (h.obj i).keep aP (fun _ _ _=>rfl) (fun _=>rfl) (fun _ _=>rfl) fun b gW ag=>⟨rfl,fun k av=> ?_⟩
    rcases av with av |⟨av,_⟩
    ·exact av
    ·exact absurd (h.apart i o b gW (by rw[aR];rfl) ag av) ab
  ·intro i j b ab ay aa ad;rw[lj]at ab ay;exact h.apart i j b ab ay aa ad
  ·rintro b k (av |⟨jf,jg⟩)
   ·exact h.phi b k av
   ·obtain ⟨n,c,pre,cur,fr,ai,aq,bb,bx,fO,aa,ad,_⟩:=bY.blk_arr jf;have vA:qo (ι o)=pre.size:=by rw[ai];rfl
    have hmul:n*t.size<=c*t.size:=Nat.mul_le_mul_right _ bb;rw[vA,aq]at jg;have a8:k<(pre++cur).size:=by rw[Array.size_append,ad];omega
    exact ⟨(pre++cur)[k],by simp[World.cell?,aa,Array.getElem?_eq_getElem a8]⟩
  ·intro i j ay;rw[bo]at ay;rw[ei];split at ay
   ·rw[aR]at ay;simp[aG.freeze,aG.ids]at ay
   ·exact h.ids i j ay
  ·rintro b k (av |⟨jf,_⟩)
   ·exact .inl av
   ·exact .inr (.inr ⟨o,by rw[aR];rfl,jf⟩)
  ·intro dx hb fU ja aau b k ag av;rw[aR]at aau;cases aau;exact .inr ⟨ag,Nat.le_add_right _ _,Nat.add_lt_add_left av _⟩
 ·have aaJ:(aF H o).freeze=aF H o:=by
   cases cP:aF H o with
   |arr e t xs fz=>exact absurd ⟨e,t,xs,fz,cP⟩ gk
   |_=>rfl
  have zT: ∀i,aF (bL H o (aF H o).freeze) i=aF H i:=fun i=>by
   rw[bo,aaJ];split
   ·rename_i ab;subst ab;rfl
   ·rfl
  refine ⟨φ,⟨⟨fun i=> ?_,fun i j b ab ay=> ?_,h.phi,fun i j ay=> ?_,h.glob⟩,⟨fun _ _ h=>h,fun _ _ _=>rfl,fun _ _ h=>.inl h,Nat.le_refl _,rfl,rfl,rfl,fun _ _ _=>rfl,fun b ag=>.inr ?_⟩,fun i=>by rw[zT],gK H o _ an⟩,fun e t xs fz aR=>absurd ⟨e,t,xs,fz,aR⟩ gk⟩
  ·rw[zT];exact h.obj i
  ·rw[zT]at ab ay;exact h.apart i j b ab ay
  ·rw[zT]at ay ⊢;exact h.ids i j ay
  ·obtain ⟨i,aa,ad⟩:=ag;rw[zT]at aa;exact ⟨i,aa,ad⟩
open Go.RowKit
theorem fY (b o k:Nat):(⟨b,o,none⟩:Addr).add k=⟨b,o+k,none⟩:=by unfold Addr.add;split<;>simp_all
theorem pJ {t u:aD} {x:t.den} {y:u.den} (h:t.cast? u x=some y): ∃e:t=u,y=e▸x:=by
 unfold aD.cast? at h;split at h
 ·rename_i e;exact ⟨e,by simpa using h.symm⟩
 ·cases h
theorem mM {b:aG} {e:TypeId} {t:aD} {xs:List t.den} {fz:Bool} (h:b.mask=.arr e t xs fz): ∃ja,b=.arr e t xs ja/\fz=false:=by
 cases b<;>simp[aG.mask]at h;obtain ⟨rfl,rfl,al,aE⟩:=h;obtain rfl:=eq_of_heq al;exact ⟨_,rfl,aE⟩
theorem aok {b:aG} {T:TypeId} {t:aD} {r:ae} (h:b.mask=.box T t r):b=.box T t r:=by
 cases b<;>simp[aG.mask]at h;obtain ⟨rfl,rfl,rfl⟩:=h;rfl
theorem n8 {w:World} {b k:Nat} {cur:Array Value} {e:TypeId} {fr:Nat×Nat} (h:w.heap[b]? =some (.cells cur e fr)):w.cell? ⟨b,k,none⟩=cur[k]? :=by simp[World.cell?,h]
theorem ZF [Env] {φ:bw} {ι:Nat->Value} {w:World} {o:Nat} {e:TypeId} {t:aD} {xs:List t.den} {fz:Bool} (h:hS φ ι w o (.arr e t xs fz))
  (iQ: ∀b k,c1 (ι o)=some b->k<xs.length*t.size->φ b (qo (ι o)+k)) {A A':Option Addr} {n c lo ab:Nat} (aX:ι o=.slice A n c) (aa:lo<=ab) (ad:ab<=n) (dO:c≠lo->A'=A.map (·.add (lo*t.size))):
  bg φ w (.list t) ((xs.take ab).drop lo) [.slice A' (ab-lo) (c-lo)]:=by
 obtain ⟨hQ,aI,c',ai,aq,bb,bx,bC⟩:=h;rw[aX]at ai;injection ai with ai fy LO
 subst ai fy LO;refine ⟨_,_,_,rfl,by simp[aq];omega,by omega,?_⟩;by_cases bz:ab-lo=0
 ·exact .inl bz
 ·refine .inr ?_;have aB:c≠lo:=by omega
  rcases bC with bC |⟨b,pre,cur,fr,rfl,g1,g2,g3,g0,g4,g5,g6,g7⟩
  ·omega
  ·have h9:c1 (ι o)=some b:=by rw[aX];simp[c1];omega
   have vA:qo (ι o)=pre.size:=by rw[aX];rfl
   have hle:ab*t.size<=n*t.size:=Nat.mul_le_mul_right _ ad;refine ⟨b,pre.size+lo*t.size,(cur.toList.take (ab*t.size)).drop (lo*t.size),by rw[dO aB];simp[fY],?_,?_⟩
   ·intro i v hi';rw[List.getElem?_drop,List.getElem?_take]at hi';split at hi'
    ·rename_i a8;refine ⟨by rw[Nat.add_assoc,<-vA];exact iQ b _ h9 (by rw[aq];omega),?_⟩;rw[n8 g1,Array.getElem?_append_right (by omega)];rw[show pre.size+lo*t.size+i-pre.size=lo*t.size+i by omega];simpa using hi'
    ·cases hi'
   ·have:=(g5.take (fun x c=>bg.len t x c) ab).drop (fun x c=>bg.len t x c) lo
    rwa [List.take_take,Nat.min_eq_left hle]at this
mutual
theorem re [Env] {ι:Nat->Value} {w:World}: ∀(r:ae) (φ:bw) (v:Value) (H:List aG) (n:Nat) (d:dN) (aC:List aG) (aI:Nat),(fQ r).go H n=some (d,aC,aI)->bP φ ι w H->r.rel φ ι w v->
  (∀i∈r.ids,(aF H i).live=true)->aI=n/\ ∃φ',ee φ ι w H φ' aC/\cd φ' w d.t d.x v
 | .dat t x,φ,v,H,n,d,aC,aI,e,h,az,ao=>by
  simp only[fQ,HM.go,bs,ct]at e;obtain ⟨rfl,rfl,rfl⟩:=e;exact ⟨rfl,φ,ee.refl h,az⟩
 | .clip t xs,φ,v,H,n,d,aC,aI,e,h,az,ao=>by
  simp only[fQ,HM.go,bs,ct]at e;obtain ⟨rfl,rfl,rfl⟩:=e;obtain ⟨A,m,rfl,aB⟩:=az;exact ⟨rfl,φ,ee.refl h,aB,rfl⟩
 | .lim t xs c,φ,v,H,n,d,aC,aI,e,h,az,ao=>by
  simp only[fQ,HM.go,bs,ct]at e;obtain ⟨rfl,rfl,rfl⟩:=e;obtain ⟨A,m,rfl,aB⟩:=az;exact ⟨rfl,φ,ee.refl h,aB,rfl⟩
 | .nils _ t,φ,v,H,n,d,aC,aI,e,h,az,ao=>by
  simp only[fQ,HM.go,bs,ct]at e;obtain ⟨rfl,rfl,rfl⟩:=e;simp only[ae.rel]at az;subst az;exact ⟨rfl,φ,ee.refl h,⟨_,_,_,rfl,rfl,Nat.le_refl _,.inl rfl⟩,rfl⟩
 | .own t o,φ,v,H,n,d,aC,aI,e,h,az,ao=>by
  have an:=fl (ao o (by simp[ae.ids]));obtain ⟨φ',g,iQ⟩:=IT h o an;simp only[fQ,HM.go]at e;rw[fk H o _ o (Nat.le_of_lt an),if_pos rfl]at e;split at e
  ·rename_i b8 u xs fz hm;obtain ⟨ja,aJ,rfl⟩:=mM hm;split at e
   ·rename_i aT bf;obtain ⟨mu,rfl⟩:=pJ bf;injection mu with mu
    subst mu;simp only[HM.go,bs,ct]at e;obtain ⟨rfl,rfl,rfl⟩:=e;obtain ⟨zl,aR⟩: ∃zl,aF H o=.arr b8 u xs zl:=by
     cases cP:aF H o<;>rw[cP]at aJ<;>simp[aG.freeze]at aJ;obtain ⟨rfl,rfl,al,aE⟩:=aJ;obtain rfl:=eq_of_heq al;exact ⟨_,rfl⟩
    have gW:=g.rel.obj o;rw[fk H o _ o (Nat.le_of_lt an),if_pos rfl,aJ]at gW;obtain ⟨rfl,A,m,c,aX⟩:=az;have aB:=ZF gW (fun b k ag av=>iQ _ _ _ _ aR b k ag av) (A':=A) aX (Nat.zero_le m) (Nat.le_refl m) (fun _=>by cases A<;>simp[Addr.add]);obtain ⟨A',Ot,c',ai,aq,_⟩:=gW;rw[aX]at ai;injection ai with ai fy LO
    subst ai fy LO;refine ⟨rfl,φ',g,?_,by rw[aX];rfl⟩;rw[aX];show bg φ' w (.list u) xs [.slice A m c];simpa [<-aq] using aB
   ·simp[HM.go]at e
  ·simp[HM.go]at e
 | .view t o lo ab,φ,v,H,n,d,aC,aI,e,h,az,ao=>by
  have an:=fl (ao o (by simp[ae.ids]));obtain ⟨φ',g,iQ⟩:=IT h o an;simp only[fQ,HM.go]at e;rw[fk H o _ o (Nat.le_of_lt an),if_pos rfl]at e;split at e
  ·rename_i b8 u xs fz hm;obtain ⟨ja,aJ,rfl⟩:=mM hm;split at e
   ·rename_i aT bf;obtain ⟨mu,rfl⟩:=pJ bf;injection mu with mu
    subst mu;simp only[HM.go,bs,ct]at e;obtain ⟨rfl,rfl,rfl⟩:=e;obtain ⟨zl,aR⟩: ∃zl,aF H o=.arr b8 u xs zl:=by
     cases cP:aF H o<;>rw[cP]at aJ<;>simp[aG.freeze]at aJ;obtain ⟨rfl,rfl,al,aE⟩:=aJ;obtain rfl:=eq_of_heq al;exact ⟨_,rfl⟩
    have gW:=g.rel.obj o;rw[fk H o _ o (Nat.le_of_lt an),if_pos rfl,aJ]at gW;obtain ⟨A,m,c,A',aX,aa,ad,al,rfl,dO,_⟩:=az;exact ⟨rfl,φ',g,ZF gW (fun b k ag av=>iQ _ _ _ _ aR b k ag av) aX aa ad dO,rfl⟩
   ·simp[HM.go]at e
  ·simp[HM.go]at e
 | .agg l,φ,v,H,n,d,aC,aI,e,h,az,ao=>by
  obtain ⟨cs,rfl,az⟩:=az;obtain ⟨aQ,φ',g,aB,aR⟩:=Wp l φ cs.toList H n d aC aI e h az (fun i ab=>ao i (by simpa [ae.ids] using ab));exact ⟨aQ,φ',g,aB,aR.symm⟩
 | .undef,_,_,_,_,_,_,_,e,_,_,_=>by simp[fQ,HM.go]at e
 | .nilv,_,_,_,_,_,_,_,e,_,_,_=>by simp[fQ,HM.go]at e
 | .ptr ..,_,_,_,_,_,_,_,e,_,_,_=>by simp[fQ,HM.go]at e
 | .fptr ..,_,_,_,_,_,_,_,e,_,_,_=>by simp[fQ,HM.go]at e
 | .tup _,_,_,_,_,_,_,_,e,_,_,_=>by simp[fQ,HM.go]at e
 | .fn ..,_,_,_,_,_,_,_,e,_,_,_=>by simp[fQ,HM.go]at e
 | .iface ..,_,_,_,_,_,_,_,e,_,_,_=>by simp[fQ,HM.go]at e
 | .nilI,_,_,_,_,_,_,_,e,_,_,_=>by simp[fQ,HM.go]at e
 | .nilF,_,_,_,_,_,_,_,e,_,_,_=>by simp[fQ,HM.go]at e
 | .nilP,_,_,_,_,_,_,_,e,_,_,_=>by simp[fQ,HM.go]at e
 | .atl _,_,_,_,_,_,_,_,e,_,_,_=>by simp[fQ,HM.go]at e
theorem Wp [Env] {ι:Nat->Value} {w:World}: ∀(l:List ae) (φ:bw) (cs:List Value) (H:List aG) (n:Nat) (d:dN) (aC:List aG) (aI:Nat),(sk l).go H n=some (d,aC,aI)->bP φ ι w H->ae.relL φ ι w l cs->
  (∀i∈ae.idsL l,(aF H i).live=true)->aI=n/\ ∃φ',ee φ ι w H φ' aC/\bg φ' w d.t d.x cs/\d.t.isAgg=true
 |[],φ,cs,H,n,d,aC,aI,e,h,az,ao=>by
  simp only[sk,HM.go,bs,ct]at e;obtain ⟨rfl,rfl,rfl⟩:=e;exact ⟨rfl,φ,ee.refl h,az,rfl⟩
 |r::l,φ,cs,H,n,d,aC,aI,e,h,az,ao=>by
  obtain ⟨v,aY,rfl,aa,ad⟩:=az;simp only[sk]at e;obtain ⟨d1,H1,cC,ai,e⟩:=HM.go_bind_some e;obtain ⟨d2,ef,dj,aq,e⟩:=HM.go_bind_some e;simp only[HM.go,bs,ct]at e;obtain ⟨rfl,rfl,rfl⟩:=e;obtain ⟨rfl,cU,g1,aX⟩:=re r φ v H n d1 H1 cC ai h aa (fun i ab=>ao i (by simp[ae.idsL,ab]));obtain ⟨rfl,du,g2,aB,_⟩:=Wp l cU aY H1 cC d2 ef dj aq g1.rel
   (ae.relL_mono g1.step.phi g1.step.cells l aY (fun _ _=>rfl) ad) (fun i ab=>by rw[g1.live];exact ao i (by simp[ae.idsL,ab]))
  exact ⟨rfl,du,g1.trans g2,⟨_,_,rfl,bg.mono g2.step.phi g2.step.cells _ _ _ aX.1,aB⟩,rfl⟩
end
theorem CX [Env] {ι:Nat->Value} {w:World} {t:aD} {r:ae} {φ:bw} {v:Value} {H:List aG} {n:Nat} {x:t.den} {aC:List aG} {aI:Nat} (e:(u7 t r).go H n=some (x,aC,aI)) (h:bP φ ι w H) (az:r.rel φ ι w v)
  (ao: ∀i∈r.ids,(aF H i).live=true):aI=n/\ ∃φ',ee φ ι w H φ' aC/\cd φ' w t x v:=by
 unfold u7 at e;obtain ⟨d,H1,cC,ai,e⟩:=HM.go_bind_some e;rw[HM.go_ofOpt]at e;obtain ⟨y,bf,e⟩:=Option.map_eq_some_iff.1 e;simp only[ct]at e;obtain ⟨rfl,rfl,rfl⟩:=e;obtain ⟨aQ,φ',g,aX⟩:=re r φ v H n d H1 cC ai h az ao;obtain ⟨d,x⟩:=d;obtain ⟨mu,rfl⟩:=pJ bf;simp only at mu;subst mu;exact ⟨aQ,φ',g,aX⟩
open Go.RowKit
def qC (P:Program) (e:TypeId) (t:aD) (bytes:Nat):Prop:=
 ∃cW z,P.info? e=some cW/\cW.size=t.size/\cW.bytes=bytes/\0<bytes/\cW.zero=some z/\0<t.size/\z.cells.toList.length=t.size/\ ∀φ w,bg φ w t t.zero z.cells.toList
def l7 (P:Program) (cx:bS) (ty:aD) (f:Nat) (U:TypeId) (off:Nat):Prop:=
 off=ty.offs f/\ ∃j,cx.ti U=some j/\ty.nth f=some j.ty/\0<j.ty.size
def jB (P:Program) (cx:bS) (T:TypeId) (i:e4):Prop:=match i.ty with
 | .bool=>P.underlying T=some .bool
 | .int k=>P.underlying T=some (.int k)
 | .str=>P.underlying T=some .string
 | .list t=>P.underlying T=some (.slice i.elem)/\qC P i.elem t i.bytes/\ ∃u,cx.ti i.elem=some u/\u.ty=t
 | .opq=> ∃d,P.underlying T=some d/\ ∀(x:Nat) (e:TypeId) fs,d≠ .array x e/\d≠ .struct fs
 |ty=>(i.arr=false/\ ∃fs,P.underlying T=some (.struct fs)/\fs.size=i.fields.length/\ ∀(f:Nat) U,i.fields[f]? =some U-> ∃fd,fs[f]? =some fd/\fd.type=U/\l7 P cx ty f U fd.offset)\/
   (i.arr=true/\ ∃n e cW,P.underlying T=some (.array n e)/\i.fields.length=n/\P.info? e=some cW/\ ∀(f:Nat) U,i.fields[f]? =some U->U=e/\l7 P cx ty f U (f*cW.size))
def Z4 (P:Program) (T:TypeId) (t:aD):Prop:= ∀(φ:bw) (w:World) (x y:t.den) (cj fI:Value) (mc nB:Operand),cd φ w t x cj->cd φ w t y fI->
 (do eqGuard .eql T mc nB cj fI;binOp .eql T cj fI:Sem Value).run P w=.ok (.bool (t.eqb x y)) w/\
 (do eqGuard .neq T mc nB cj fI;binOp .neq T cj fI:Sem Value).run P w=.ok (.bool (!(t.eqb x y))) w
def Oo (P:Program) (T:TypeId) (nm:String) (f:Nat):Prop:= ∀(v:Value) (w:World),(method (P.types.size+Made.depth) T v nm).run P w=.ok (f,v) w
structure afW (P:Program) (cx:bS) (T:TypeId) (i:e4):Prop where
 info: ∃info,P.info? T=some info/\info.size=i.ty.size/\ ∀r,cx.zeroRV 20 T=some r-> ∃z,info.zero=some z/\z.cells.size=i.ty.size/\iy z=i.ty.isAgg/\r.fits i.ty=true/\r.ids=[]/\ ∀φ ι w,r.rel φ ι w z
 desc:jB P cx T i
 cmp:i.cmp=true->i.ty.cmp=true->i.ty.isAgg=true->Z4 P T i.ty
 iface:i.nil=true-> ∃ms,P.underlying T=some (.interface ms)
 meth: ∀nm f,tg i.meths nm=some f->Oo P T nm f
def cA (P:Program) (cx:bS):Prop:= ∀T i,cx.ti T=some i->afW P cx T i
theorem gh {cx:bS} {T:TypeId} {t:aD} (h:cx.isTy T t=true): ∃i,cx.ti T=some i/\i.ty=t:=by
 unfold bS.isTy at h;split at h
 ·rename_i i ab;exact ⟨i,ab,by simpa using h⟩
 ·cases h
theorem Dt {cx:bS} {T:TypeId} {t:Option aD} (h:cx.isTyO T t=true): ∃i,cx.ti T=some i/\t=some i.ty:=by
 unfold bS.isTyO at h;split at h
 ·rename_i t;obtain ⟨i,aa,ad⟩:=gh h;exact ⟨i,aa,by rw[ad]⟩
 ·cases h
section
variable {P:Program} {cx:bS} {T:TypeId} {i:e4} {w:World}
theorem BF (tab:cA P cx) (h:cx.ti T=some i):(sizeOf T).run P w=.ok i.ty.size w:=by
 obtain ⟨info,aa,ad,_⟩:=(tab T i h).info;simp[sizeOf,typeInfo,aa,ad]
theorem J7 (tab:cA P cx) (h:cx.ti T=some i):(isAgg T).run P w=.ok i.ty.isAgg w:=by
 have ax:=(tab T i h).desc;unfold jB at ax;unfold isAgg;split at ax
 ·rename_i e;simp[run_underlying ax,e,aD.isAgg]
 ·rename_i e;simp[run_underlying ax,e,aD.isAgg]
 ·rename_i e;simp[run_underlying ax,e,aD.isAgg]
 ·rename_i e;simp[run_underlying ax.1,e,aD.isAgg]
 ·rename_i e;obtain ⟨d,ax,aQ⟩:=ax;rw[e];cases d with
  |array x y=>exact absurd rfl (aQ x y #[]).1
  |struct fs=>exact absurd rfl (aQ 0 0 fs).2
  |_=>simp[run_underlying ax,aD.isAgg]
 ·rename_i ty aa ad al aE aZ;have:i.ty.isAgg=true:=by
   cases dH:i.ty with
   |bool=>exact absurd dH aa
   |int k=>exact absurd dH (ad k)
   |str=>exact absurd dH al
   |list t=>exact absurd dH (aE t)
   |opq=>exact absurd dH aZ
   |unit=>rfl
   |pair a b=>rfl
  rw[this];rcases ax with ⟨_,fs,ax,_⟩|⟨_,n,e,cW,ax,_⟩<;>simp[run_underlying ax]
end
theorem Dh {t u:aD} {i:Nat} (h:t.nth i=some u):t.offs i+u.size<=t.size:=by
 induction t generalizing i with
 |pair a b Ag sZ=>
  cases i with
  |zero=>simp[aD.nth]at h;subst h;simp[aD.offs,aD.size]
  |succ i=>have:=sZ (i:=i) (by simpa [aD.nth] using h);simp only[aD.offs,aD.size];omega
 |_=>cases i<;>simp[aD.nth]at h
theorem qc {t u:aD} {p:List Nat} (h:t.at_ p=some u):t.offAt p+u.size<=t.size:=by
 induction p generalizing t with
 |nil=>simp[aD.at_]at h;subst h;simp[aD.offAt]
 |cons i p aO=>
  simp only[aD.at_]at h;split at h
  ·rename_i e he;have aa:=Dh he;have ad:=aO h;simp only[aD.offAt,he];omega
  ·cases h
theorem CL {φ:bw} {w:World} {t:aD} {x:t.den} {cs:List Value} {i:Nat} {d:dN} (h:bg φ w t x cs) (aP:t.proj x i=some d):t.nth i=some d.t/\bg φ w d.t d.x ((cs.drop (t.offs i)).take d.t.size):=by
 induction t generalizing i cs with
 |pair a b Ag sZ=>
  obtain ⟨a7,aY,rfl,aa,ad⟩:=h;cases i with
  |zero=>
   simp only[aD.proj,bs]at aP;subst aP;refine ⟨rfl,?_⟩;have:=bg.len a _ _ aa;simp only[aD.offs,List.drop_zero];rw[<-this,List.take_left];exact aa
  |succ i=>
   simp only[aD.proj]at aP;obtain ⟨g1,g2⟩:=sZ ad aP;refine ⟨g1,?_⟩;simp only[aD.offs];rw[<-bg.len a _ _ aa,<-List.drop_drop,List.drop_left];exact g2
 |_=>cases i<;>simp[aD.proj]at aP
theorem aoz {φ:bw} {w:World} {p:List Nat}: ∀{d e:dN} {cs:List Value},bg φ w d.t d.x cs->d.at_ p=some e->d.t.at_ p=some e.t/\bg φ w e.t e.x ((cs.drop (d.t.offAt p)).take e.t.size):=by
 induction p with
 |nil=>
  intro d e cs h aP;simp only[dN.at_,bs]at aP;subst aP;refine ⟨rfl,?_⟩;simp only[aD.offAt,List.drop_zero];rw[<-bg.len _ _ _ h,List.take_length];exact h
 |cons i p aO=>
  intro d e cs h aP;simp only[dN.at_]at aP;split at aP
  ·rename_i f aJ;obtain ⟨g1,g2⟩:=CL h aJ;obtain ⟨a1,k2⟩:=aO g2 aP;refine ⟨by simp only[aD.at_,g1,a1],?_⟩;have hle:=qc a1;simp only[aD.offAt,g1];rw[List.drop_take,List.take_take,List.drop_drop,Nat.min_eq_left (by omega)]at k2;exact k2
  ·cases aP
mutual
theorem ae.rel_fits {φ:bw} {ι:Nat->Value} {w:World}: ∀(r:ae) (t:aD) (v:Value),r.rel φ ι w v->r.fits t=true->v.cells.size=t.size/\iy v=t.isAgg
 | .dat u x,t,v,h,aJ=>by
  have e:u=t:=by simpa [ae.fits] using aJ
  subst e;exact ⟨by rw[<-bg.len _ _ _ h.1];simp,h.2⟩
 | .nils _ u,t,v,h,aJ=>by
  have e:aD.list u=t:=by simpa [ae.fits] using aJ
  subst e;simp only[ae.rel]at h;subst h;exact ⟨rfl,rfl⟩
 | .own u o,t,v,h,aJ=>by
  have e:aD.list u=t:=by simpa [ae.fits] using aJ
  subst e;obtain ⟨_,A,n,c,rfl⟩:=h;exact ⟨rfl,rfl⟩
 | .agg l,t,v,h,aJ=>by
  obtain ⟨cs,rfl,h⟩:=h;obtain ⟨aa,ad⟩:=ae.relL_fits l t cs.toList h (by simpa [ae.fits] using aJ);exact ⟨by simpa [Value.cells] using aa,by rw[ad];rfl⟩
 | .ptr o u i p,t,v,h,aJ=>by
  have e:t=.opq:=by simpa [ae.fits] using aJ
  subst e;obtain ⟨b,_,_,rfl,_⟩:=h;exact ⟨rfl,rfl⟩
 | .fptr u x,t,v,h,aJ=>by
  have e:t=.opq:=by simpa [ae.fits] using aJ
  subst e;obtain ⟨b,o,cs,rfl,_⟩:=h;exact ⟨rfl,rfl⟩
 | .fn f a b,t,v,h,aJ=>by
  have e:t=.opq:=by simpa [ae.fits] using aJ
  subst e;obtain ⟨x,y,rfl,_⟩:=h;exact ⟨rfl,rfl⟩
 | .iface T r,t,v,h,aJ=>by
  have e:t=.opq:=by simpa [ae.fits] using aJ
  subst e;obtain ⟨u,rfl,_⟩:=h;exact ⟨rfl,rfl⟩
 | .nilI,t,v,h,aJ=>by
  have e:t=.opq:=by simpa [ae.fits] using aJ
  subst e;simp only[ae.rel]at h;subst h;exact ⟨rfl,rfl⟩
 | .nilF,t,v,h,aJ=>by
  have e:t=.opq:=by simpa [ae.fits] using aJ
  subst e;simp only[ae.rel]at h;subst h;exact ⟨rfl,rfl⟩
 | .nilP,t,v,h,aJ=>by
  have e:t=.opq:=by simpa [ae.fits] using aJ
  subst e;simp only[ae.rel]at h;subst h;exact ⟨rfl,rfl⟩
 | .undef,_,_,_,aJ=>by simp[ae.fits]at aJ
 | .atl _,_,_,_,aJ=>by simp[ae.fits]at aJ
 | .lim ..,_,_,_,aJ=>by simp[ae.fits]at aJ
 | .yld Y o,t,v,h,aJ=>by
  have e:t=.opq:=by simpa [ae.fits] using aJ
  subst e;obtain ⟨_,l,rfl⟩:=h;exact ⟨rfl,rfl⟩
 | .gp ..,_,_,_,aJ=>by simp[ae.fits]at aJ
 | .dfr ..,_,_,_,aJ=>by simp[ae.fits]at aJ
 | .clip ..,_,_,_,aJ=>by simp[ae.fits]at aJ
 | .nilv,_,_,_,aJ=>by simp[ae.fits]at aJ
 | .view ..,_,_,_,aJ=>by simp[ae.fits]at aJ
 | .tup _,_,_,_,aJ=>by simp[ae.fits]at aJ
theorem ae.relL_fits {φ:bw} {ι:Nat->Value} {w:World}: ∀(l:List ae) (t:aD) (cs:List Value),ae.relL φ ι w l cs->ae.fitsL l t=true->cs.length=t.size/\t.isAgg=true
 |[],t,cs,h,aJ=>by
  have e:t=.unit:=by simpa [ae.fitsL] using aJ
  subst e;simp only[ae.relL]at h;subst h;exact ⟨rfl,rfl⟩
 |r::l,t,cs,⟨v,aY,e,aa,ad⟩,aJ=>by
  subst e;cases t with
  |pair a b=>
   simp only[ae.fitsL,bB]at aJ;have g1:=(ae.rel_fits r a v aa aJ.1).1;have g2:=(ae.relL_fits l b aY ad aJ.2).1;exact ⟨by simp[aD.size,g1,g2],rfl⟩
  |_=>simp[ae.fitsL]at aJ
end
open Go.RowKit
structure hs (H:List aG) (n:Nat) (aC:List aG) (aI:Nat):Prop where
 le:n<=aI
 len:H.length<=aC.length
 top:n<=H.length->aI<=aC.length
 same: ∀i,i<n\/aI<=i->(aF aC i).live=(aF H i).live
 seq:n=H.length->aC.length=aI
theorem hs.refl (H:List aG) (n:Nat):hs H n H n:=⟨Nat.le_refl _,Nat.le_refl _,id,fun _ _=>rfl,fun h=>h.symm⟩
theorem hs.trans {H aC kV:List aG} {n aI Ot:Nat} (a:hs H n aC aI) (b:hs aC aI kV Ot):hs H n kV Ot:=
 ⟨Nat.le_trans a.le b.le,Nat.le_trans a.len b.len,fun h=>b.top (a.top h),fun i ab=>(b.same i (ab.imp (fun h=>Nat.lt_of_lt_of_le h a.le) id)).trans (a.same i (ab.imp id (fun h=>Nat.le_trans b.le h))),fun h=>b.seq (a.seq h).symm⟩
theorem ee.nx [Env] {φ:bw} {ι:Nat->Value} {w:World} {H:List aG} {φ':bw} {aC:List aG} (g:ee φ ι w H φ' aC) (n:Nat):hs H n aC n:=
 ⟨Nat.le_refl _,by rw[g.len];exact Nat.le_refl _,fun h=>by rw[g.len];exact h,fun i _=>g.live i,fun h=>by rw[g.len,h]⟩
def ch [Env] (φ:bw) (ι:Nat->Value) (w:World) (H:List aG) (n:Nat) (r:ae) (aC:List aG) (aI:Nat) (run:Result Value):Prop:=
 ∃v w' φ' ι',run=.ok v w'/\bP φ' ι' w' aC/\Step φ ι w H φ' ι' w' aC/\dA ι H ι' aC/\hs H n aC aI/\r.rel φ' ι' w' v/\ ∀i∈r.ids,(aF aC i).live=true
theorem ch.pure [Env] {φ:bw} {ι:Nat->Value} {w:World} {H:List aG} {n:Nat} {r:ae} {v:Value} (h:bP φ ι w H) (az:r.rel φ ι w v) (ao: ∀i∈r.ids,(aF H i).live=true) {run:Result Value} (e:run=.ok v w):ch φ ι w H n r H n run:=
 ⟨v,w,φ,ι,e,h,Step.refl _ _ _ _,dA.refl _ _,hs.refl _ _,az,ao⟩
theorem ch.ghost [Env] {φ:bw} {ι:Nat->Value} {w:World} {H:List aG} {n:Nat} {r:ae} {v:Value} {φ':bw} {aC:List aG} (g:ee φ ι w H φ' aC) (az:r.rel φ' ι w v) (ao: ∀i∈r.ids,(aF aC i).live=true) {run:Result Value} (e:run=.ok v w):ch φ ι w H n r aC n run:=
 ⟨v,w,φ',ι,e,g.rel,g.step,g.keep,g.nx n,az,ao⟩
def Plain (r:ae) (v:Value):Prop:=r.ids=[]/\ ∀φ ι w,r.rel φ ι w v
theorem Plain.int (k:IntKind) (a:Int):Plain (.dat (.int k) a) (.int k a):=⟨rfl,fun _ _ _=>cd.int.2 rfl⟩
theorem Plain.bool (a:Bool):Plain (.dat .bool a) (.bool a):=⟨rfl,fun _ _ _=>cd.bool.2 rfl⟩
theorem Plain.str (a:List UInt8):Plain (.dat .str a) (.string ⟨⟨a⟩⟩):=⟨rfl,fun _ _ _=>cd.str.2 rfl⟩
section
variable {P:Program} {H:List aG} {n:Nat} {r:ae} {aC:List aG} {aI:Nat}
theorem Xb {op:BinOp} {k:IntKind} {a b:Int} (e:(yk op k a b).go H n=some (r,aC,aI)) (aa:op≠ .shl) (ad:op≠ .shr):
  aC=H/\aI=n/\ ∃v,Plain r v/\ ∀(w:World) (T:TypeId) (x y:Operand),(do eqGuard op T x y (.int k a) (.int k b);binOp op T (.int k a) (.int k b):Sem Value).run P w=.ok v w:=by
 cases op<;>simp only[yk,HM.go,bs,ct,reduceCtorEq]at e
 case add=>obtain ⟨rfl,rfl,rfl⟩:=e;exact ⟨rfl,rfl,_,Plain.int _ _,fun w T x y=>by simp[eqGuard,binOp,Op.intArith]⟩
 case sub=>obtain ⟨rfl,rfl,rfl⟩:=e;exact ⟨rfl,rfl,_,Plain.int _ _,fun w T x y=>by simp[eqGuard,binOp,Op.intArith]⟩
 case mul=>obtain ⟨rfl,rfl,rfl⟩:=e;exact ⟨rfl,rfl,_,Plain.int _ _,fun w T x y=>by simp[eqGuard,binOp,Op.intArith]⟩
 case quo=>
  by_cases ag:b=0
  ·simp[ag]at e
  ·simp only[ag,decide_false,aL,bs,ct]at e;obtain ⟨rfl,rfl,rfl⟩:=e;exact ⟨rfl,rfl,_,Plain.int _ _,fun w T x y=>by simp[eqGuard,binOp,Op.intDiv,ag]⟩
 case rem=>
  by_cases ag:b=0
  ·simp[ag]at e
  ·simp only[ag,decide_false,aL,bs,ct]at e;obtain ⟨rfl,rfl,rfl⟩:=e;exact ⟨rfl,rfl,_,Plain.int _ _,fun w T x y=>by simp[eqGuard,binOp,Op.intDiv,ag]⟩
 case and=>obtain ⟨rfl,rfl,rfl⟩:=e;exact ⟨rfl,rfl,_,Plain.int _ _,fun w T x y=>by simp[eqGuard,binOp,Op.intBits]⟩
 case or=>obtain ⟨rfl,rfl,rfl⟩:=e;exact ⟨rfl,rfl,_,Plain.int _ _,fun w T x y=>by simp[eqGuard,binOp,Op.intBits]⟩
 case xor=>obtain ⟨rfl,rfl,rfl⟩:=e;exact ⟨rfl,rfl,_,Plain.int _ _,fun w T x y=>by simp[eqGuard,binOp,Op.intBits]⟩
 case andNot=>obtain ⟨rfl,rfl,rfl⟩:=e;exact ⟨rfl,rfl,_,Plain.int _ _,fun w T x y=>by simp[eqGuard,binOp,Op.intBits]⟩
 case eql=>obtain ⟨rfl,rfl,rfl⟩:=e;exact ⟨rfl,rfl,_,Plain.bool _,fun w T x y=>by simp[eqGuard,binOp,Op.intCmp];rfl⟩
 case neq=>obtain ⟨rfl,rfl,rfl⟩:=e;exact ⟨rfl,rfl,_,Plain.bool _,fun w T x y=>by simp[eqGuard,binOp,Op.intCmp,bne];rfl⟩
 case lss=>obtain ⟨rfl,rfl,rfl⟩:=e;exact ⟨rfl,rfl,_,Plain.bool _,fun w T x y=>by simp[eqGuard,binOp,Op.intCmp]⟩
 case leq=>obtain ⟨rfl,rfl,rfl⟩:=e;exact ⟨rfl,rfl,_,Plain.bool _,fun w T x y=>by simp[eqGuard,binOp,Op.intCmp]⟩
 case gtr=>obtain ⟨rfl,rfl,rfl⟩:=e;exact ⟨rfl,rfl,_,Plain.bool _,fun w T x y=>by simp[eqGuard,binOp,Op.intCmp]⟩
 case geq=>obtain ⟨rfl,rfl,rfl⟩:=e;exact ⟨rfl,rfl,_,Plain.bool _,fun w T x y=>by simp[eqGuard,binOp,Op.intCmp]⟩
theorem WV {op:BinOp} {k k':IntKind} {a b:Int} (e:(DO op k a b).go H n=some (r,aC,aI)):
  aC=H/\aI=n/\ ∃v,Plain r v/\ ∀(w:World) (T:TypeId) (x y:Operand),(do eqGuard op T x y (.int k a) (.int k' b);binOp op T (.int k a) (.int k' b):Sem Value).run P w=.ok v w:=by
 cases op<;>simp only[DO,HM.go,reduceCtorEq]at e
 case shl=>
  by_cases ag:b<0
  ·simp[ag]at e
  ·simp only[ag,decide_false,aL,bs,ct]at e;obtain ⟨rfl,rfl,rfl⟩:=e;exact ⟨rfl,rfl,_,Plain.int _ _,fun w T x y=>by simp[eqGuard,binOp,Op.shift,ag]⟩
 case shr=>
  by_cases ag:b<0
  ·simp[ag]at e
  ·simp only[ag,decide_false,aL,bs,ct]at e;obtain ⟨rfl,rfl,rfl⟩:=e;exact ⟨rfl,rfl,_,Plain.int _ _,fun w T x y=>by simp[eqGuard,binOp,Op.shift,ag]⟩
theorem oi (x:List UInt8):(⟨⟨x⟩⟩:ByteArray).toList=x:=ByteArray.toList_eq _
theorem r6 (a b:List UInt8):(a==b)=decide (a=b):=by rw[Bool.eq_iff_iff];simp
theorem amP {op:BinOp} {a b:List UInt8} (e:(Ly op a b).go H n=some (r,aC,aI)):
  aC=H/\aI=n/\ ∃v,Plain r v/\ ∀(w:World) (T:TypeId) (x y:Operand),(do eqGuard op T x y (.string ⟨⟨a⟩⟩) (.string ⟨⟨b⟩⟩);binOp op T (.string ⟨⟨a⟩⟩) (.string ⟨⟨b⟩⟩):Sem Value).run P w=.ok v w:=by
 cases op<;>simp only[Ly,HM.chk,HM.go,bs,ct,reduceCtorEq]at e
 case add=>
  by_cases ag:a.length+b.length<=bm
  ·simp only[ag,cK,aA,bs,ct]at e;obtain ⟨rfl,rfl,rfl⟩:=e;refine ⟨rfl,rfl,.string ⟨⟨a++b⟩⟩,Plain.str _,fun w T x y=> ?_⟩;have aa:(⟨⟨a⟩⟩:ByteArray).size=a.length:=rfl;have ad:(⟨⟨b⟩⟩:ByteArray).size=b.length:=rfl;have hm:IntKind.i64.max=9223372036854775807:=rfl;unfold bm at ag;have aE:(⟨⟨a⟩⟩:ByteArray)++(⟨⟨b⟩⟩:ByteArray)=⟨⟨a++b⟩⟩:=by
    apply ByteArray.ext;simp[ByteArray.data_append]
   simp only[eqGuard,binOp,Op.stringOp,aa,ad,aE];simp;omega
  ·simp[ag]at e
 case eql=>obtain ⟨rfl,rfl,rfl⟩:=e;exact ⟨rfl,rfl,_,Plain.bool _,fun w T x y=>by simp[eqGuard,binOp,Op.stringOp,oi,r6]⟩
 case neq=>obtain ⟨rfl,rfl,rfl⟩:=e;exact ⟨rfl,rfl,_,Plain.bool _,fun w T x y=>by simp[eqGuard,binOp,Op.stringOp,oi,r6]⟩
 case lss=>obtain ⟨rfl,rfl,rfl⟩:=e;exact ⟨rfl,rfl,_,Plain.bool _,fun w T x y=>by simp[eqGuard,binOp,Op.stringOp,oi]⟩
 case leq=>obtain ⟨rfl,rfl,rfl⟩:=e;exact ⟨rfl,rfl,_,Plain.bool _,fun w T x y=>by simp[eqGuard,binOp,Op.stringOp,oi,r6]⟩
 case gtr=>obtain ⟨rfl,rfl,rfl⟩:=e;exact ⟨rfl,rfl,_,Plain.bool _,fun w T x y=>by simp[eqGuard,binOp,Op.stringOp,oi,r6]⟩
 case geq=>obtain ⟨rfl,rfl,rfl⟩:=e;exact ⟨rfl,rfl,_,Plain.bool _,fun w T x y=>by simp[eqGuard,binOp,Op.stringOp,oi]⟩
end
open Go.RowKit
section
variable {P:Program} {cx:bS} {φ:bw} {ι:Nat->Value} {w:World} {H:List aG} {n:Nat} {r:ae} {aC:List aG} {aI:Nat}
theorem ch.plain [Env] {v:Value} (h:bP φ ι w H) (aP:Plain r v) {run:Result Value} (e:run=.ok v w):ch φ ι w H n r H n run:=
 ch.pure h (aP.2 φ ι w) (by rw[aP.1];simp) e
theorem R1 {T:TypeId} (ax:P.underlying T=some .bool) (d:Nat) (a b:Bool) (w:World):(Op.equalIn (d+1) T (.bool a) (.bool b)).run P w=.ok (a==b) w:=by
 simp[Op.equalIn,run_underlying ax]
theorem TV {T:TypeId} (ax:P.underlying T=some .bool) (a b:Bool) (w:World):(Op.equal T (.bool a) (.bool b)).run P w=.ok (a==b) w:=R1 ax 9999 a b w
theorem alI [Env] (tab:cA P cx) {op:BinOp} {T:TypeId} {x y:ae} (e:(Lk cx op T x y).go H n=some (r,aC,aI)) (h:bP φ ι w H) {cj fI:Value} (aw:x.rel φ ι w cj) (bf:y.rel φ ι w fI)
  (eJ: ∀i∈x.ids,(aF H i).live=true) (q1: ∀i∈y.ids,(aF H i).live=true) (mc nB:Operand):
  ch φ ι w H n r aC aI ((do eqGuard op T mc nB cj fI;binOp op T cj fI:Sem Value).run P w):=by
 unfold Lk at e;split at e
 ·rename_i k a k' b;obtain rfl:=cd.int.1 aw;obtain rfl:=cd.int.1 bf;split at e
  ·obtain ⟨rfl,rfl,v,aP,az⟩:=WV (P:=P) (k':=k') e;exact ch.plain h aP (az w T mc nB)
  ·obtain ⟨rfl,rfl,v,aP,az⟩:=WV (P:=P) (k':=k') e;exact ch.plain h aP (az w T mc nB)
  ·rename_i aa ad;by_cases av:k=k'
   ·subst av;simp only[cK,aA]at e;obtain ⟨rfl,rfl,v,aP,az⟩:=Xb (P:=P) e aa ad;exact ch.plain h aP (az w T mc nB)
   ·simp[av,HM.go]at e
 ·rename_i a b;obtain rfl:=cd.str.1 aw;obtain rfl:=cd.str.1 bf;obtain ⟨rfl,rfl,v,aP,az⟩:=amP (P:=P) e;exact ch.plain h aP (az w T mc nB)
 ·rename_i k a m;obtain rfl:=cd.int.1 aw;obtain ⟨c,rfl,aB⟩: ∃c:Nat,fI=.int .i64 (c:Int)/\m<=c:=bf;split at e
  ·by_cases av:k=.i64
   ·subst av;simp only[cK,aA]at e;obtain ⟨ag,e⟩:=HM.go_chk e;simp only[HM.go,bs,ct]at e;obtain ⟨rfl,rfl,rfl⟩:=e;have ag: @LE.le Int _ a (m:Int):=of_decide_eq_true ag;have aJ:decide (@GT.gt Int _ a (c:Int))=false:=decide_eq_false (by omega);have aq:(yk .gtr .i64 a (c:Int)).go H n=some (.dat .bool false,H,n):=by simp only[yk,HM.go,aJ]
    obtain ⟨-,-,v,aP,az⟩:=Xb (P:=P) aq (by simp) (by simp);exact ch.plain h aP (az w T mc nB)
   ·simp[av,HM.go]at e
  ·simp[HM.go]at e
 ·rename_i a b;obtain rfl:=cd.bool.1 aw;obtain rfl:=cd.bool.1 bf;by_cases bW:cx.isTy T .bool=true
  ·obtain ⟨i,ab,dH⟩:=gh bW;have ax:=(tab T i ab).desc;unfold jB at ax;rw[dH]at ax;simp only at ax;rw[bW]at e;simp only[aA]at e;cases op<;>simp only[HM.go,bs,ct,reduceCtorEq]at e
   case eql=>
    obtain ⟨rfl,rfl,rfl⟩:=e;refine ch.plain h (Plain.bool _) ?_;simp only[eqGuard,binOp,Sem.run_bind,Sem.run_pure,Result.andThen_ok,TV ax];simp
   case neq=>
    obtain ⟨rfl,rfl,rfl⟩:=e;refine ch.plain h (Plain.bool _) ?_;simp only[eqGuard,binOp,Sem.run_bind,Sem.run_pure,Result.andThen_ok,TV ax];simp
  ·simp[bW,HM.go]at e
 ·split at e
  ·rename_i i ab;by_cases aB:(i.cmp&&i.ty.cmp&&i.ty.isAgg)=true
   ·rw[aB]at e;simp only[aA]at e;simp only[bB]at aB;obtain ⟨a,H1,cC,ai,bb⟩:=HM.go_bind_some e;clear e;obtain ⟨b,ef,dj,aq,e⟩:=HM.go_bind_some bb;clear bb;obtain ⟨rfl,cU,g1,v1⟩:=CX ai h aw eJ;obtain ⟨rfl,du,g2,v2⟩:=CX aq g1.rel (ae.rel_step g1.step g1.keep q1 bf) (fun i ab=>by rw[g1.live];exact q1 i ab);have v1:=v1.mono g2.step.phi g2.step.cells;have aN:=(tab T i ab).cmp aB.1.1 aB.1.2 aB.2 du w a b cj fI mc nB v1 v2;cases op<;>simp only[HM.go,bs,ct,reduceCtorEq]at e
    case eql=>
     obtain ⟨rfl,rfl,rfl⟩:=e;exact ch.ghost (g1.trans g2) ((Plain.bool _).2 _ _ _) (by simp[ae.ids]) aN.1
    case neq=>
     obtain ⟨rfl,rfl,rfl⟩:=e;exact ch.ghost (g1.trans g2) ((Plain.bool _).2 _ _ _) (by simp[ae.ids]) aN.2
   ·simp only[Bool.not_eq_true]at aB;rw[aB]at e;simp[HM.go]at e
  ·simp[HM.go]at e
theorem amp [Env] {op:UnOp} {x:ae} (e:(LD op x).go H n=some (r,aC,aI)) (h:bP φ ι w H) {cj:Value} (aw:x.rel φ ι w cj):ch φ ι w H n r aC aI ((Op.unary op cj).run P w):=by
 unfold LD at e;split at e
 ·obtain rfl:=cd.int.1 aw;simp only[HM.go,bs,ct]at e;obtain ⟨rfl,rfl,rfl⟩:=e;exact ch.plain h (Plain.int _ _) (by simp[Op.unary,Op.intArith])
 ·obtain rfl:=cd.bool.1 aw;simp only[HM.go,bs,ct]at e;obtain ⟨rfl,rfl,rfl⟩:=e;exact ch.plain h (Plain.bool _) (by simp[Op.unary])
 ·obtain rfl:=cd.int.1 aw;simp only[HM.go,bs,ct]at e;obtain ⟨rfl,rfl,rfl⟩:=e;exact ch.plain h (Plain.int _ _) (by simp[Op.unary,Op.intBits])
 ·simp[HM.go]at e
def m0 (t:aD) (cs:List Value):Value:=if t.isAgg then .agg cs.toArray else cs.headD undef
theorem anC {v:Value} (h:v.oneCell'=true):iy v=false:=by cases v<;>first |rfl |(simp[Value.oneCell']at h)
theorem cd.of {t:aD} {x:t.den} {cs:List Value} (h:bg φ w t x cs):cd φ w t x (m0 t cs)/\(m0 t cs).cells.toList=cs:=by
 unfold m0;by_cases aR:t.isAgg=true
 ·rw[if_pos aR];have:(Value.agg cs.toArray).cells.toList=cs:=by simp[Value.cells]
  exact ⟨⟨by rw[this];exact h,by rw[aR];rfl⟩,this⟩
 ·simp only[Bool.not_eq_true]at aR;rw[if_neg (by simp[aR])];have ao:=h.len;have au:t.size=1:=by cases t<;>first |rfl |(simp[aD.isAgg]at aR)
  rw[au]at ao;obtain ⟨v,rfl⟩:=List.length_eq_one_iff.1 ao;have aX:=anC (h.one _ _ _ v (by simp));have aB:v.cells.toList=[v]:=by rw[pE aX]
  simp only[List.headD_cons];exact ⟨⟨by rw[aB];exact h,aX.trans aR.symm⟩,aB⟩
theorem Xq {i:Nat} {t:aD} {x s:ae} {v:Value} (az:x.rel φ ι w v) (aJ:x.fits t=true) (aB:x.comp i=some s):
  ∃u vs,t.nth i=some u/\s.rel φ ι w vs/\s.fits u=true/\vs.cells.toList=(v.cells.toList.drop (t.offs i)).take u.size/\iy vs=u.isAgg/\ ∀j∈s.ids,j∈x.ids:=by
 unfold ae.comp at aB;split at aB
 ·rename_i l i;obtain ⟨cs,rfl,az⟩:=az;simp only[ae.fits]at aJ
  suffices bC: ∀(l:List ae) (t:aD) (cs:List Value) (i:Nat),ae.relL φ ι w l cs->ae.fitsL l t=true->l[i]? =some s->
    ∃u vs,t.nth i=some u/\s.rel φ ι w vs/\s.fits u=true/\vs.cells.toList=(cs.drop (t.offs i)).take u.size/\iy vs=u.isAgg/\ ∀j∈s.ids,j∈ae.idsL l by
   simpa [ae.ids,Value.cells] using bC _ t cs.toList _ az aJ aB
  intro l
  induction l with
  |nil=>intro t cs i _ _ h;simp at h
  |cons a l aO=>
   intro t cs i az aJ ab;obtain ⟨v,aY,rfl,aa,ad⟩:=az;cases t with
   |pair p q=>
    simp only[ae.fitsL,bB]at aJ;obtain ⟨g1,g2⟩:=ae.rel_fits a p v aa aJ.1;cases i with
    |zero=>
     simp only[List.getElem?_cons_zero,bs]at ab;subst ab;refine ⟨p,v,rfl,aa,aJ.1,?_,g2,fun j ay=>by simp[ae.idsL,ay]⟩;simp only[aD.offs,List.drop_zero];rw[<-g1,show v.cells.size=v.cells.toList.length by simp,List.take_left]
    |succ i=>
     obtain ⟨u,vs,a1,k2,b5,dD,fZ,hj⟩:=aO q aY i ad aJ.2 (by simpa using ab);refine ⟨u,vs,a1,k2,b5,?_,fZ,fun j ay=>by simp[ae.idsL,hj j ay]⟩;simp only[aD.offs];rw[<-g1,show v.cells.size=v.cells.toList.length by simp,<-List.drop_drop,List.drop_left];exact dD
   |_=>simp[ae.fitsL]at aJ
 ·rename_i pr u x;have e:u=t:=by simpa [ae.fits] using aJ
  subst e;obtain ⟨d,ax,rfl⟩:=Option.map_eq_some_iff.1 aB;obtain ⟨g1,g2⟩:=CL az.1 ax;obtain ⟨a1,k2⟩:=cd.of g2;exact ⟨d.t,_,g1,a1,by simp[ae.fits],k2,a1.2,by simp[ae.ids]⟩
 ·cases aB
theorem aif {T:TypeId} {ms:Array (String×TypeId)} (hu:P.underlying T=some (.interface ms)) (d:Nat) (U:TypeId) (u:Value) (w:World):(Op.equalIn (d+1) T (.iface U u) .nilIface).run P w=.ok false w:=by
 simp[Op.equalIn,run_underlying hu]
theorem aih {T:TypeId} {ms:Array (String×TypeId)} (hu:P.underlying T=some (.interface ms)) (d:Nat) (w:World):(Op.equalIn (d+1) T .nilIface .nilIface).run P w=.ok true w:=by
 simp[Op.equalIn,run_underlying hu]
theorem ak1 {T:TypeId} {ms:Array (String×TypeId)} (hu:P.underlying T=some (.interface ms)):(∀U u,(Op.equal T (.iface U u) .nilIface).run P w=.ok false w)/\(Op.equal T .nilIface .nilIface).run P w=.ok true w:=
 ⟨fun U u=>aif hu 9999 U u w,aih hu 9999 w⟩
theorem ale [Env] (tab:cA P cx) {op:BinOp} {T:TypeId} {x:ae} (e:(Lw cx op T x).go H n=some (r,aC,aI)) (h:bP φ ι w H) {cj:Value} (aw:x.rel φ ι w cj) (eJ: ∀i∈x.ids,(aF H i).live=true) (mc:Operand) (y:Value) (bf:y=.nilIface:=by rfl):
  ch φ ι w H n r aC aI ((do eqGuard op T mc (.const y) cj .nilIface;binOp op T cj .nilIface:Sem Value).run P w):=by
 subst bf;unfold Lw at e;split at e
 ·rename_i i ab;cases aQ:i.nil
  ·simp[aQ,HM.go]at e
  ·rw[aQ,aA]at e;obtain ⟨ms,hu⟩:=(tab T i ab).iface aQ;obtain ⟨bh,bZ⟩:=ak1 (w:=w) hu;split at e
   ·simp only[HM.go,bs,ct]at e;obtain ⟨rfl,rfl,rfl⟩:=e;obtain ⟨u,rfl,-⟩:=aw;refine ch.plain h (Plain.bool _) ?_;simp[eqGuard,binOp,bh,bZ]
   ·simp only[HM.go,bs,ct]at e;obtain ⟨rfl,rfl,rfl⟩:=e;obtain ⟨u,rfl,-⟩:=aw;refine ch.plain h (Plain.bool _) ?_;simp[eqGuard,binOp,bh,bZ]
   ·simp only[HM.go,bs,ct]at e;obtain ⟨rfl,rfl,rfl⟩:=e;obtain rfl:cj=.nilIface:=aw;refine ch.plain h (Plain.bool _) ?_;simp[eqGuard,binOp,bh,bZ]
   ·simp only[HM.go,bs,ct]at e;obtain ⟨rfl,rfl,rfl⟩:=e;obtain rfl:cj=.nilIface:=aw;refine ch.plain h (Plain.bool _) ?_;simp[eqGuard,binOp,bh,bZ]
   ·simp[HM.go]at e
 ·simp[HM.go]at e
end
open Go.RowKit
section
variable {P:Program} {cx:bS} {φ:bw} {ι:Nat->Value} {w:World} {H:List aG} {n:Nat} {r:ae} {aC:List aG} {aI:Nat}
theorem gz {t:aD} {x:t.den} {v:Value} (h:cd φ w t x v):(ae.dat t x).rel φ ι w v:=h
theorem ZI {v:Value} {cs:List Value} {t:aD} (aa:v.cells.toList=cs) (ad:iy v=t.isAgg):v=m0 t cs:=by
 unfold m0;by_cases aR:t.isAgg=true
 ·rw[if_pos aR];obtain ⟨c,rfl⟩:=sf (ad.trans aR);simp only[Value.cells]at aa;rw[<-aa]
 ·simp only[Bool.not_eq_true]at aR;rw[if_neg (by simp[aR])];rw[pE (ad.trans aR)]at aa;subst aa;rfl
theorem akZ {p:List Nat}: ∀{t:aD} {x s:ae} {v:Value},x.rel φ ι w v->x.fits t=true->x.atPath p=some s->
  ∃u vs,t.at_ p=some u/\s.rel φ ι w vs/\s.fits u=true/\vs.cells.toList=(v.cells.toList.drop (t.offAt p)).take u.size/\iy vs=u.isAgg/\ ∀j∈s.ids,j∈x.ids:=by
 induction p with
 |nil=>
  intro t x s v az aJ aP;simp only[ae.atPath,bs]at aP;subst aP;obtain ⟨g1,g2⟩:=ae.rel_fits x t v az aJ;refine ⟨t,v,rfl,az,aJ,?_,g2,fun j ay=>ay⟩;simp only[aD.offAt,List.drop_zero];rw[<-g1,show v.cells.size=v.cells.toList.length by simp,List.take_length]
 |cons i p aO=>
  intro t x s v az aJ aP;simp only[ae.atPath]at aP;split at aP
  ·rename_i y bf;obtain ⟨u,vs,a1,k2,b5,dD,fZ,hj⟩:=Xq az aJ bf;obtain ⟨hp,tL,dd,cM,nu,pB,arW,Fq⟩:=aO k2 b5 aP;refine ⟨hp,tL,by simp only[aD.at_,a1,dd],cM,nu,?_,arW,fun j ay=>hj j (Fq j ay)⟩;have hle:=qc dd;rw[pB,dD];simp only[aD.offAt,a1];rw[List.drop_take,List.take_take,List.drop_drop,Nat.min_eq_left (by omega)]
  ·cases aP
theorem GW (tab:cA P cx) {T:TypeId} {i:e4} (ab:cx.ti T=some i) {b o:Nat} {cs:List Value} (ao:cs.length=i.ty.size) (aB: ∀j v,cs[j]? =some v->w.cell? ⟨b,o+j,none⟩=some v):
  (loadVar T ⟨b,o,none⟩).run P w=.ok (m0 i.ty cs) w:=by
 unfold loadVar;simp only[Sem.run_bind,J7 tab ab,Result.andThen_ok];unfold m0;by_cases aR:i.ty.isAgg=true
 ·rw[if_pos aR,if_pos aR];have:=run_loadCells_list (P:=P) w ⟨b,o,none⟩ cs (fun j v ay=>by rw[fY];exact aB j v ay);simp only[Sem.run_bind,BF tab ab,Result.andThen_ok,<-ao,this,Sem.run_pure]
 ·simp only[Bool.not_eq_true]at aR;have au:i.ty.size=1:=by cases h:i.ty<;>first |rfl |(rw[h]at aR;simp[aD.isAgg]at aR)
  rw[au]at ao;obtain ⟨v,rfl⟩:=List.length_eq_one_iff.1 ao;have:=aB 0 v rfl;simp only[Nat.add_zero]at this;simp[aR,load,Sem.run,this]
theorem hh {A A':Option Addr} {n aI c c':Nat} (h:Value.slice A n c=.slice A' aI c'):A=A'/\n=aI/\c=c':=by injection h with a b c;exact ⟨a,b,c⟩
theorem Zn [Env] (h:bP φ ι w H) {o:Nat} {e:TypeId} {t:aD} {xs:List t.den} {fz:Bool} (an:aF H o=.arr e t xs fz) {i:Nat} {p:List Nat} {v:Value} (az:(ae.ptr o t i p).rel φ ι w v):
  ∃b cur fr k,v=.pointer (some ⟨b,k+i*t.size+t.offAt p,none⟩)/\w.heap[b]? =some (.cells cur e fr)/\qG fr cur.size/\(∀v∈cur.toList,v.oneCell'=true)/\i<xs.length/\k+(i+1)*t.size<=cur.size/\c1 (ι o)=some b/\
   bg φ w t (xs.getD i t.zero) ((cur.toList.drop (k+i*t.size)).take t.size)/\qo (ι o)=k:=by
 obtain ⟨b,k,ag,rfl,aP⟩:=az;have bY:=h.obj o;rw[an]at bY;rcases ag with ⟨n,c,ag,ab⟩|⟨ag,_⟩
 ·obtain ⟨A,aI,c',ai,aq,bb,bx,bC⟩:=bY;rw[ag]at ai;obtain ⟨rfl,rfl,rfl⟩:=hh ai;rcases bC with bC |⟨bJ,pre,cur,fr,c9,g1,g2,g3,g0,g4,g5,g6,g7⟩
  ·omega
  ·injection c9 with c9
   injection c9 with c9 apD
   subst c9 apD;have hle:(i+1)*t.size<=n*t.size:=Nat.mul_le_mul_right _ ab;have Nl:n*t.size<=c*t.size:=Nat.mul_le_mul_right _ bb;have kG: ∀v∈(pre++cur).toList,v.oneCell'=true:=fun v aX=>by
    rw[Array.toList_append]at aX;rcases List.mem_append.1 aX with aX |aX
    ·exact g0 v aX
    ·exact g4.one v aX
   refine ⟨b,pre++cur,fr,pre.size,rfl,g1,by rw[Array.size_append];exact g3.ok,kG,by omega,by rw[Array.size_append];omega,by rw[ag];simp[c1];omega,?_,by rw[ag];rfl⟩;have aqs:(pre++cur).toList.drop (pre.size+i*t.size)=cur.toList.drop (i*t.size):=by
    rw[Array.toList_append,<-List.drop_drop,show pre.size=pre.toList.length by simp,List.drop_left]
   rw[aqs];have aw:xs[i]? =some (xs.getD i t.zero):=by
    rw[List.getD_eq_getElem?_getD,List.getElem?_eq_getElem (by omega)];rfl
   have bH:=g5.get (fun x c=>bg.len t x c) _ _ i _ aw;rw[Nat.add_mul,Nat.one_mul]at hle;rw[List.drop_take,List.take_take,Nat.min_eq_left (by omega)]at bH;exact bH
 ·obtain ⟨A,aI,c',ai,_⟩:=bY;rw[ag]at ai;cases ai
theorem Zo [Env] (h:bP φ ι w H) {o:Nat} {T:TypeId} {t:aD} {x:ae} (an:aF H o=.box T t x) {i:Nat} {p:List Nat} {v:Value} (az:(ae.ptr o t i p).rel φ ι w v):
  ∃b cur fr u,v=.pointer (some ⟨b,t.offAt p,none⟩)/\w.heap[b]? =some (.cells cur T fr)/\cur.size=t.size/\qG fr cur.size/\(∀v∈cur.toList,v.oneCell'=true)/\x.rel φ ι w u/\u.cells=cur/\x.fits t=true/\c1 (ι o)=some b:=by
 obtain ⟨b,k,ag,rfl,aP⟩:=az;have bY:=h.obj o;rw[an]at bY;obtain ⟨bJ,cur,fr,u,ai,g1,g2,g3,g4,g5,g6,g7,g8⟩:=bY;rcases ag with ⟨n,c,ag,ab⟩|⟨ag,ab⟩
 ·rw[ag]at ai;cases ai
 ·rw[ag]at ai;injection ai with ai
  injection ai with ai
  injection ai with ai
  subst ai;exact ⟨b,cur,fr,u,by rw[ab.1,ab.2];simp,g1,g2,g3,g4,g5,g6,g7,by rw[ag];rfl⟩
theorem Wg [Env] (tab:cA P cx) {T:TypeId} {a:ae} (e:(yg cx T a).go H n=some (r,aC,aI)) (h:bP φ ι w H) {kR:Value} (aR:a.rel φ ι w kR):
  aC=H/\aI=n/\ ∃v,(Instr.loadAt T kR).run P w=.ok v w/\(do loadVar T (<-asAddr kR):Sem Value).run P w=.ok v w/\r.rel φ ι w v/\ ∀i∈r.ids,(aF H i).live=true:=by
 unfold yg at e;split at e
 ·rename_i b off l;by_cases bW:cx.isTy T .opq=true
  ·obtain ⟨i,ab,dH⟩:=gh bW;rw[bW]at e;simp only[aA]at e;cases l with
   |nil=>simp[HM.ofOpt,HM.bind,HM.go]at e
   |cons x l=>
    simp only[List.head?,HM.ofOpt,HM.bind,HM.go,bs,ct]at e;obtain ⟨rfl,rfl,rfl⟩:=e;obtain ⟨rfl,ff⟩:=aR;have aB:=(ff 0 (k9 x) rfl).2;have dU:=GW (w:=w) tab ab (cs:=[k9 x]) (b:=b) (o:=off) (by rw[dH];rfl) (fun j v ay=>by
     cases j with
     |zero=>
      obtain rfl:k9 x=v:=by simpa using ay
      exact aB
     |succ j=>simp at ay)
    have aX:m0 i.ty [k9 x]=k9 x:=by rw[dH];rfl
    rw[aX]at dU;refine ⟨rfl,rfl,k9 x,?_,?_,?_,?_⟩
    ·simp[Instr.loadAt,Instr.sureAddr,asAddr,dU]
    ·simp[asAddr,dU]
    ·cases x with
     |none=>rfl
     |some f=>exact ⟨#[],#[],rfl,rfl,rfl⟩
    ·cases x<;>simp[aah,ae.ids,ae.idsL]
  ·simp[bW,HM.go]at e
 ·rename_i t v;by_cases bW:cx.isTy T t=true
  ·obtain ⟨i,ab,rfl⟩:=gh bW;rw[bW]at e;simp only[aA,HM.go,bs,ct]at e;obtain ⟨rfl,rfl,rfl⟩:=e;obtain ⟨b,o,cs,rfl,ff,aB⟩:=aR;have dU:=GW (w:=w) tab ab (aB.len) (fun j v ay=>(ff j v ay).2);refine ⟨rfl,rfl,_,?_,?_,gz (cd.of aB).1,by simp[ae.ids]⟩<;>simp[Instr.loadAt,Instr.sureAddr,asAddr,dU]
  ·simp[bW,HM.go]at e
 ·rename_i o s i p;by_cases bW:cx.isTyO T (s.at_ p)=true
  ·obtain ⟨ti,ab,ff⟩:=Dt bW;rw[bW]at e;simp only[aA,HM.go]at e;split at e
   ·rename_i b8 t xs fz hm;obtain ⟨ja,an,rfl⟩:=mM hm;by_cases fF:s=t
    ·subst fF;simp only[cK,aA]at e;obtain ⟨d,H1,cC,ai,aq⟩:=HM.go_bind_some e;rw[HM.go_ofOpt]at ai;obtain ⟨o2,ax,ai⟩:=Option.map_eq_some_iff.1 ai;simp only[ct]at ai;obtain ⟨rfl,rfl,rfl⟩:=ai;simp only[HM.go,bs,ct]at aq;obtain ⟨rfl,rfl,rfl⟩:=aq;obtain ⟨b,cur,fr,bk,rfl,g1,g2,g3,g4,g5,g6,g7,-⟩:=Zn h an aR;obtain ⟨a1,k2⟩:=aoz (d:=⟨s,xs.getD i s.zero⟩) g7 ax;simp only at a1 k2;rw[ff]at a1;injection a1 with a1
     have hle:=qc ff;have ao:=k2.len;have dU:=GW (w:=w) (b:=b) (o:=bk+i*s.size+s.offAt p) tab ab (by rw[a1];exact ao) (fun j v ay=>by
      rw[List.drop_take,List.take_take,List.drop_drop]at ay;rw[List.getElem?_take]at ay;split at ay
      ·rw[List.getElem?_drop]at ay;rw[n8 g1];simpa using ay
      ·cases ay)
     refine ⟨rfl,rfl,_,?_,?_,gz (cd.of k2).1,by simp[ae.ids]⟩<;>simp[Instr.loadAt,Instr.sureAddr,asAddr,dU,a1]
    ·simp[fF,HM.go]at e
   ·rename_i Ce t x hm;have an:=aok hm;by_cases fF:s=t
    ·subst fF;simp only[cK,aA]at e;rw[HM.go_ofOpt]at e;obtain ⟨y,bf,e⟩:=Option.map_eq_some_iff.1 e;simp only[ct]at e;obtain ⟨rfl,rfl,rfl⟩:=e;obtain ⟨b,cur,fr,u,rfl,g1,g2,g3,g4,g5,rfl,g7,g8⟩:=Zo h an aR;obtain ⟨ty,vs,a1,k2,b5,dD,fZ,hj⟩:=akZ g5 g7 bf;rw[ff]at a1;injection a1 with a1
     subst a1;have hle:=qc ff;have ao:(vs.cells.toList).length=ti.ty.size:=by rw[dD];simp;omega
     have dU:=GW (w:=w) (b:=b) (o:=s.offAt p) (cs:=vs.cells.toList) tab ab ao (fun j v ay=>by
      rw[dD,List.getElem?_take]at ay;split at ay
      ·rw[List.getElem?_drop]at ay;rw[n8 g1];simpa using ay
      ·cases ay)
     refine ⟨rfl,rfl,_,?_,?_,k2,fun j ay=>h.idsB o _ _ _ an j (hj j ay)⟩<;>simp[Instr.loadAt,Instr.sureAddr,asAddr,dU,<-ZI rfl fZ]
    ·simp[fF,HM.go]at e
   ·simp[HM.go]at e
  ·simp[bW,HM.go]at e
 ·simp[HM.go]at e
theorem akd [Env] (tab:cA P cx) {T:TypeId} {a:ae} (e:(yg cx T a).go H n=some (r,aC,aI)) (h:bP φ ι w H) {kR:Value} (aR:a.rel φ ι w kR):
  ch φ ι w H n r aC aI ((Instr.loadAt T kR).run P w):=by
 obtain ⟨aa,ad,v,al,-,aE,aZ⟩:=Wg tab e h aR;subst aa ad;exact ch.pure h aE aZ al
end
open Go.RowKit
theorem X9 (t:aD) (p q:List Nat):t.at_ (p++q)=(t.at_ p).bind fun u=>u.at_ q:=by
 induction p generalizing t with
 |nil=>simp[aD.at_]
 |cons i p aO=>
  simp only[List.cons_append,aD.at_];cases t.nth i with
  |none=>rfl
  |some u=>exact aO u
theorem VX {t u:aD} {p q:List Nat} (h:t.at_ p=some u):t.offAt (p++q)=t.offAt p+u.offAt q:=by
 induction p generalizing t with
 |nil=>simp[aD.at_]at h;subst h;simp[aD.offAt]
 |cons i p aO=>
  simp only[aD.at_]at h;split at h
  ·rename_i e he;simp only[List.cons_append,aD.offAt,he];rw[aO h,Nat.add_assoc]
  ·cases h
section
variable {P:Program} {cx:bS} {φ:bw} {ι:Nat->Value} {w:World} {H:List aG} {n:Nat} {r:ae} {aC:List aG} {aI:Nat}
theorem go_ret {α:Type} {a b:α} {H aC:List aG} {n aI:Nat} (e:(HM.ret a).go H n=some (b,aC,aI)):b=a/\aC=H/\aI=n:=by
 simp only[HM.go,bs,ct]at e;exact ⟨e.1.symm,e.2.1.symm,e.2.2.symm⟩
theorem go_opt {α:Type} {o:Option α} {b:α} {H aC:List aG} {n aI:Nat} (e:(HM.ofOpt o).go H n=some (b,aC,aI)):o=some b/\aC=H/\aI=n:=by
 rw[HM.go_ofOpt]at e;obtain ⟨a,aR,e⟩:=Option.map_eq_some_iff.1 e;simp only[ct]at e;obtain ⟨rfl,rfl,rfl⟩:=e;exact ⟨aR,rfl,rfl⟩
theorem go_bif {α:Type} {b:Bool} {x:HM α} {H:List aG} {n:Nat} {r:α×List aG×Nat} (e:(bif b then x else .fail).go H n=some r):b=true/\x.go H n=some r:=by
 cases b
 ·simp[HM.go]at e
 ·exact ⟨rfl,e⟩
theorem BQ (tab:cA P cx) {T:TypeId} {i:e4} (ab:cx.ti T=some i) {f:Nat} {u:TypeId} (aJ:i.fields[f]? =some u):
  (i.arr=false/\ ∃fs fd,P.underlying T=some (.struct fs)/\fs[f]? =some fd/\fd.type=u/\l7 P cx i.ty f u fd.offset)\/
   (i.arr=true/\ ∃e cW,P.underlying T=some (.array i.fields.length e)/\P.info? e=some cW/\u=e/\l7 P cx i.ty f u (f*cW.size))\/i.ty.isAgg=false:=by
 have ax:=(tab T i ab).desc;unfold jB at ax;split at ax
 ·rename_i e;exact .inr (.inr (by rw[e];rfl))
 ·rename_i e;exact .inr (.inr (by rw[e];rfl))
 ·rename_i e;exact .inr (.inr (by rw[e];rfl))
 ·rename_i e;exact .inr (.inr (by rw[e];rfl))
 ·rename_i e;exact .inr (.inr (by rw[e];rfl))
 ·rcases ax with ⟨aR,fs,ax,au,av⟩|⟨aR,n,e,cW,ax,aQ,he,av⟩
  ·obtain ⟨fd,aa,ad,al⟩:=av f u aJ;exact .inl ⟨aR,fs,fd,ax,aa,ad,al⟩
  ·obtain ⟨aa,ad⟩:=av f u aJ;exact .inr (.inl ⟨aR,e,cW,by rw[aQ];exact ax,he,aa,ad⟩)
theorem jb (tab:cA P cx) {T:TypeId} {i:e4} (ab:cx.ti T=some i) {t:aD} (aU:i.ty=.list t):P.underlying T=some (.slice i.elem)/\qC P i.elem t i.bytes:=by
 have ax:=(tab T i ab).desc;unfold jB at ax;rw[aU]at ax;exact ⟨ax.1,ax.2.1⟩
theorem XQ (tab:cA P cx) {T:TypeId} {i:e4} (ab:cx.ti T=some i) {t:aD} (aU:i.ty=.list t): ∃u,cx.ti i.elem=some u/\u.ty=t:=by
 have ax:=(tab T i ab).desc;unfold jB at ax;rw[aU]at ax;exact ax.2.2
theorem pS (tab:cA P cx) {T:TypeId} {i:e4} (ab:cx.ti T=some i) (aU:i.ty=.str):P.underlying T=some .string:=by
 have ax:=(tab T i ab).desc;unfold jB at ax;rw[aU]at ax;exact ax
theorem Ds (tab:cA P cx) {T:TypeId} {i:e4} (ab:cx.ti T=some i) {k:IntKind} (aU:i.ty=.int k):P.underlying T=some (.int k):=by
 have ax:=(tab T i ab).desc;unfold jB at ax;rw[aU]at ax;exact ax
theorem wm {e:TypeId} {t:aD} {bytes:Nat} (h:qC P e t bytes) (w:World):(sizeOf e).run P w=.ok t.size w:=by
 obtain ⟨cW,z,aa,ad,_⟩:=h;simp[sizeOf,typeInfo,aa,ad]
theorem uL {o:Nat} {t:aD} {i:Nat} {p:List Nat} {v:Value} (h: ∃b k,((∃n c,ι o=.slice (some ⟨b,k,none⟩) n c/\i<n)\/(ι o=.pointer (some ⟨b,0,none⟩)/\i=0/\k=0))/\v=.pointer (some ⟨b,k+i*t.size+t.offAt p,none⟩)/\(t.at_ p).isSome):(ae.ptr o t i p).rel φ ι w v:=h
theorem KP {t:aD} {x:t.den} {v:Value} (h: ∃b o cs,v=.pointer (some ⟨b,o,none⟩)/\iT φ w b o cs/\bg φ w t x cs):(ae.fptr t x).rel φ ι w v:=h
theorem xV {t:aD} {o lo ab:Nat} {v:Value} (h: ∃A n c A',ι o=.slice A n c/\lo<=ab/\ab<=n/\n<=c/\v=.slice A' (ab-lo) (c-lo)/\(c≠lo->A'=A.map (·.add (lo*t.size)))/\(c≠0-> ∃b k,A=some ⟨b,k,none⟩)):(ae.view t o lo ab).rel φ ι w v:=h
theorem sa {t:aD} {o:Nat} {v:Value} (h:v=ι o/\ ∃A n c,v=.slice A n c):(ae.own t o).rel φ ι w v:=h
theorem api {t:aD} {xs:List t.den} {v:Value} (h: ∃A n,v=.slice A n n/\bg φ w (.list t) xs [v]):(ae.clip t xs).rel φ ι w v:=h
theorem WU (tab:cA P cx) {T:TypeId} {ti:e4} (ab:cx.ti T=some ti) (gk:ti.arr=false) (hZ:ti.ty.isAgg=true) {f:Nat} (a8:f<ti.fields.length) (b o:Nat):
  ∃j,cx.ti ti.fields[f]=some j/\ti.ty.nth f=some j.ty/\(Instr.fieldAt T (.pointer (some ⟨b,o,none⟩)) f).run P w=.ok (.pointer (some ⟨b,o+ti.ty.offs f,none⟩)) w:=by
 rcases BQ tab ab (List.getElem?_eq_getElem a8) with ⟨_,fs,fd,ax,aa,ad,al⟩|⟨aa,_⟩|aa
 ·obtain ⟨an,j,ay,kF,dh⟩:=al;refine ⟨j,ay,kF,?_⟩;have NL:=BF (w:=w) tab ay;unfold Instr.fieldAt;simp only[Sem.run_bind,run_underlying ax,Result.andThen_ok,aa,Instr.sureAddr,Sem.run_pure,fieldPlace,ad,NL];rw[if_neg (by omega)];simp[fY,an]
 ·rw[gk]at aa;cases aa
 ·rw[hZ]at aa;cases aa
theorem Lp {b o k s:Nat} {cs:List Value} (ff:iT φ w b o cs):iT φ w b (o+k) ((cs.drop k).take s):=by
 intro j u ay;rw[List.getElem?_take]at ay;split at ay
 ·rw[List.getElem?_drop]at ay;have:=ff _ u ay
  rwa [<-Nat.add_assoc]at this
 ·cases ay
theorem ahD [Env] (tab:cA P cx) {T:TypeId} {x:ae} {f:Nat} (e:(IS cx T x f).go H n=some (r,aC,aI)) (h:bP φ ι w H) {cj:Value} (aw:x.rel φ ι w cj) (eJ: ∀i∈x.ids,(aF H i).live=true):
  ch φ ι w H n r aC aI ((Instr.fieldAt T cj f).run P w):=by
 unfold IS at e;split at e
 ·rename_i ti ab;have q:=go_bif e;clear e;obtain ⟨ag,e⟩:=q;simp only[bB,Bool.not_eq_true',Nat.blt_eq]at ag;obtain ⟨⟨gk,hZ⟩,a8⟩:=ag;cases x<;>simp only[HM.go,reduceCtorEq]at e
  case ptr o t j p=>
   have q:=go_bif e;clear e;obtain ⟨bW,e⟩:=q;obtain ⟨rfl,rfl,rfl⟩:=go_ret e;obtain ⟨pr,hi',ff⟩:=Dt bW;rw[ab]at hi';injection hi' with hi'
   subst hi';obtain ⟨b,k,ag,rfl,aP⟩:=aw;obtain ⟨gY,jG,kF,dU⟩:=WU (P:=P) (w:=w) tab ab gk hZ a8 b (k+j*t.size+t.offAt p);have ai:ti.ty.offAt [f]=ti.ty.offs f:=by simp[aD.offAt,kF]
   refine ch.pure (r:=.ptr o t j (p++[f])) h (uL ⟨b,k,ag,?_,?_⟩) (by simpa [ae.ids] using eJ) dU
   ·rw[VX ff,ai];simp only[Nat.add_assoc]
   ·rw[X9,ff];simp[aD.at_,kF]
  case fptr t v=>
   have q:=go_bif e;clear e;obtain ⟨bW,e⟩:=q;obtain ⟨pr,hi',rfl⟩:=gh bW;rw[ab]at hi';injection hi' with hi'
   subst hi';obtain ⟨d,H1,cC,ai,aq⟩:=HM.go_bind_some e;obtain ⟨ax,rfl,rfl⟩:=go_opt ai;obtain ⟨rfl,rfl,rfl⟩:=go_ret aq;obtain ⟨b,o,cs,rfl,ff,aB⟩:=aw;obtain ⟨g1,g2⟩:=CL aB ax;obtain ⟨gY,jG,kF,dU⟩:=WU (P:=P) (w:=w) tab ab gk hZ a8 b o;exact ch.pure h (KP ⟨b,o+ti.ty.offs f,_,rfl,Lp ff,g2⟩) (by simp[ae.ids]) dU
 ·simp[HM.go]at e
theorem ajl [Env] (tab:cA P cx) {T:TypeId} {x:ae} {f:Nat} (e:(KE cx T x f).go H n=some (r,aC,aI)) (h:bP φ ι w H) {cj:Value} (aw:x.rel φ ι w cj) (eJ: ∀i∈x.ids,(aF H i).live=true):
  ch φ ι w H n r aC aI ((Instr.field T cj f).run P w):=by
 unfold KE at e;split at e
 ·rename_i ti ab;have q:=go_bif e;clear e;obtain ⟨ag,e⟩:=q;simp only[bB,Bool.not_eq_true',Nat.blt_eq]at ag;obtain ⟨⟨⟨gk,hZ⟩,a8⟩,aJ⟩:=ag;obtain ⟨aB,rfl,rfl⟩:=go_opt e;obtain ⟨u,vs,a1,k2,b5,dD,fZ,hj⟩:=Xq aw aJ aB;have aX:=(ae.rel_fits x ti.ty cj aw aJ).2;rw[hZ]at aX;obtain ⟨cs,rfl⟩:=sf aX;have dh:=(ae.rel_fits x ti.ty _ aw aJ).1;rcases BQ tab ab (List.getElem?_eq_getElem a8) with ⟨_,fs,fd,ax,aa,ad,al⟩|⟨aa,_⟩|aa
  ·obtain ⟨an,j,ay,kF,avv⟩:=al;rw[a1]at kF;injection kF with kF
   subst kF;have hle:=Dh a1;simp only[Value.cells]at dh dD;refine ch.pure h k2 (fun i ab=>eJ i (hj i ab)) ?_;unfold Instr.field;simp only[Sem.run_bind,run_underlying ax,Result.andThen_ok,aa,ad,asAgg,Sem.run_pure,part,J7 tab ay];rw[ZI dD fZ];unfold m0;by_cases aR:j.ty.isAgg=true
   ·rw[if_pos aR,if_pos aR];simp only[Sem.run_bind,BF tab ay,Result.andThen_ok,Sem.run_pure];congr 2;apply Array.ext';rw[Array.toList_extract,List.extract_eq_take_drop,an];simp
   ·simp only[Bool.not_eq_true]at aR;have au:j.ty.size=1:=by cases h:j.ty<;>first |rfl |(rw[h]at aR;simp[aD.isAgg]at aR)
    have n0:ti.ty.offs f<cs.size:=by rw[dh];omega
    rw[au,an];have ai:(cs.toList.drop (ti.ty.offs f)).take 1=[cs[ti.ty.offs f]]:=by
     rw[List.drop_eq_getElem_cons (by simpa using n0)];simp
    simp[aR,Array.getElem?_eq_getElem n0,ai]
  ·rw[gk]at aa;cases aa
  ·rw[hZ]at aa;cases aa
 ·simp[HM.go]at e
end
open Go.RowKit
section
variable {P:Program} {cx:bS} {φ:bw} {ι:Nat->Value} {w:World} {H:List aG} {n:Nat} {r:ae} {aC:List aG} {aI:Nat}
theorem F1 {T e:TypeId} (ax:P.underlying T=some (.slice e)) {s:Nat} (au: ∀w,(sizeOf e).run P w=.ok s w) {a:Addr} {m c:Nat} {k:IntKind} {i:Int} (bX:0<=i) (aa:i<m):
  (Instr.indexAt T (.slice (some a) m c) (.int k i)).run P w=.ok (.pointer (some (a.add (i.toNat*s)))) w:=by
 unfold Instr.indexAt;simp[asIntOf,run_underlying ax,au,bX,aa]
theorem O1 {T e:TypeId} {m:Nat} (ax:P.underlying T=some (.array m e)) {s:Nat} (au: ∀w,(sizeOf e).run P w=.ok s w) {a:Addr} {k:IntKind} {i:Int} (bX:0<=i) (aa:i<m):
  (Instr.indexAt T (.pointer (some a)) (.int k i)).run P w=.ok (.pointer (some (a.add (i.toNat*s)))) w:=by
 unfold Instr.indexAt;simp[asIntOf,run_underlying ax,au,bX,aa,Instr.sureAddr]
theorem go_chk2 {α:Type} {b:Bool} {x:HM α} {H:List aG} {n:Nat} {r:α×List aG×Nat} (e:(HM.chk b x).go H n=some r):b=true/\x.go H n=some r:=HM.go_chk e
theorem Yj {α:Type} {xs:List α} {i:Nat} {d:α} (h:i<xs.length):xs[i]? =some (xs.getD i d):=by
 rw[List.getD_eq_getElem?_getD,List.getElem?_eq_getElem h];rfl
theorem Yg {t:aD} {xs:List t.den} {A:Option Addr} {m c:Nat} (h:bg φ w (.list t) xs [.slice A m c]) {i:Nat} (ab:i<xs.length):
  ∃a,A=some a/\m=xs.length/\(ae.fptr t (xs.getD i t.zero)).rel φ ι w (.pointer (some (a.add (i*t.size)))):=by
 obtain ⟨A',pD,c',e,ao,aQ,h⟩:=h;injection e with e _
 obtain ⟨rfl,rfl,rfl⟩:=hh e;rcases h with h |⟨b,o,aT,rfl,ff,av⟩
 ·omega
 ·refine ⟨_,rfl,ao.symm,KP ⟨b,o+i*t.size,(aT.drop (i*t.size)).take t.size,by rw[fY],Lp ff,?_⟩⟩;exact av.get (fun x c=>bg.len t x c) _ _ i _ (Yj ab)
theorem nS (tab:cA P cx) {T:TypeId} {i:e4} (ab:cx.ti T=some i) {t:aD} (aU:i.ty=.list t):P.underlying T=some (.slice i.elem)/\ ∀w,(sizeOf i.elem).run P w=.ok t.size w:=
 ⟨(jb tab ab aU).1,fun w=>wm (jb tab ab aU).2 w⟩
theorem go_idxIn {α:Type} {k:Nat} {f:Nat->HM α} {H:List aG} {m:Nat} {q:α×List aG×Nat}: ∀n,(sm k f n).go H m=some q->(f k).go H m=some q
 |0,h=>by simp[sm,HM.go]at h
 |n+1,h=>by
  unfold sm at h;cases ag:Nat.beq k n
  ·rw[ag]at h;exact go_idxIn n (by simpa [HM.go] using h)
  ·rw[ag]at h;have:k=n:=by simpa using ag
   subst this;simpa [HM.go] using h
theorem ahE [Env] (tab:cA P cx) {T:TypeId} {x:ae} {i:Int} (e:(IU cx T x i).go H n=some (r,aC,aI)) (h:bP φ ι w H) {cj:Value} (aw:x.rel φ ι w cj) (eJ: ∀i∈x.ids,(aF H i).live=true) (k:IntKind):
  ch φ ι w H n r aC aI ((Instr.indexAt T cj (.int k i)).run P w):=by
 unfold IU at e;split at e
 ·rename_i t o;have q:=go_bif e;clear e;obtain ⟨bW,e⟩:=q;obtain ⟨ti,ew,dH⟩:=gh bW;obtain ⟨ax,au⟩:=nS tab ew dH;simp only[HM.go]at e;split at e
  ·rename_i b8 u xs fz hm;obtain ⟨ja,an,rfl⟩:=mM hm;have q:=go_bif e;clear e;obtain ⟨hu,e⟩:=q;have hu:u=t:=by simpa using hu
   subst hu;have q:=go_chk2 e;clear e;obtain ⟨ag,e⟩:=q;simp only[bB,db]at ag;obtain ⟨rfl,rfl,rfl⟩:=go_ret e;obtain ⟨rfl,_⟩:=aw;have bY:=h.obj o;rw[an]at bY;obtain ⟨A,m,c,ai,aq,bb,bx,bC⟩:=bY;rcases bC with bC |⟨b,pre,cur,fr,rfl,_⟩
   ·omega
   ·rw[ai];refine ch.pure (r:=.ptr o u i.toNat []) h (uL ⟨b,pre.size,.inl ⟨m,c,ai,by omega⟩,rfl,rfl⟩) (by simpa [ae.ids] using eJ) ?_;rw[F1 ax au ag.1 (by omega)];simp[fY,aD.offAt]
  ·simp[HM.go]at e
 ·rename_i t o lo ab;have q:=go_bif e;clear e;obtain ⟨bW,e⟩:=q;obtain ⟨ti,ew,dH⟩:=gh bW;obtain ⟨ax,au⟩:=nS tab ew dH;have q:=go_chk2 e;clear e;obtain ⟨ag,e⟩:=q;simp only[bB,db]at ag;obtain ⟨rfl,rfl,rfl⟩:=go_ret e;obtain ⟨A,m,c,A',ai,aa,ad,al,rfl,dO,cG⟩:=aw;obtain ⟨b,bk,rfl⟩:=cG (by omega);obtain rfl:=dO (by omega);refine ch.pure (r:=.ptr o t (lo+i.toNat) []) (v:=.pointer (some ⟨b,bk+(lo+i.toNat)*t.size+t.offAt [],none⟩)) h (uL ⟨b,bk,.inl ⟨m,c,ai,by omega⟩,rfl,rfl⟩) (by simpa [ae.ids] using eJ) ?_;simp only[Option.map_some,fY];rw[F1 ax au ag.1 ag.2];simp[fY,aD.offAt,Nat.add_mul,Nat.add_assoc]
 ·rename_i o t j p;have q:=go_bif e;clear e;obtain ⟨bW,e⟩:=q;obtain ⟨ti,ew,ff⟩:=Dt bW;rw[ew]at e;simp only at e;have q:=go_bif e;clear e;obtain ⟨gk,e⟩:=q;simp only[bB]at gk;have q:=go_chk2 e;clear e;obtain ⟨ag,e⟩:=q;simp only[bB,db]at ag;have q:=go_idxIn _ e;clear e;have e:=q;clear q;obtain ⟨rfl,rfl,rfl⟩:=go_ret e;obtain ⟨b,bk,nV,rfl,aP⟩:=aw;have a8:i.toNat<ti.fields.length:=by omega
  rcases BQ tab ew (List.getElem?_eq_getElem a8) with ⟨aa,_⟩|⟨_,b8,cW,ax,nh,abe,an,gY,jG,kF,_⟩|aa
  ·rw[gk.1]at aa;cases aa
  ·refine ch.pure (r:=.ptr o t j (p++[i.toNat])) (v:=.pointer (some ⟨b,bk+j*t.size+t.offAt (p++[i.toNat]),none⟩)) h (uL ⟨b,bk,nV,rfl,?_⟩) (by simpa [ae.ids] using eJ) ?_
   ·rw[X9,ff];simp[aD.at_,kF]
   ·rw[O1 ax (s:=cW.size) (fun w=>by simp[sizeOf,typeInfo,nh]) ag.1 ag.2];rw[VX ff];simp[fY,aD.offAt,kF,<-an,Nat.add_assoc]
  ·rw[gk.2]at aa;cases aa
 ·rename_i t v;have q:=go_bif e;clear e;obtain ⟨bW,e⟩:=q;obtain ⟨ti,ew,rfl⟩:=gh bW;rw[ew]at e;simp only at e;have q:=go_bif e;clear e;obtain ⟨gk,e⟩:=q;simp only[bB]at gk;have q:=go_chk2 e;clear e;obtain ⟨ag,e⟩:=q;simp only[bB,db]at ag;have q:=go_idxIn _ e;clear e;have e:=q;clear q;obtain ⟨d,H1,cC,ai,aq⟩:=HM.go_bind_some e;obtain ⟨mz,rfl,rfl⟩:=go_opt ai;obtain ⟨rfl,rfl,rfl⟩:=go_ret aq;obtain ⟨b,o,cs,rfl,ff,aB⟩:=aw;obtain ⟨g1,g2⟩:=CL aB mz;have a8:i.toNat<ti.fields.length:=by omega
  rcases BQ tab ew (List.getElem?_eq_getElem a8) with ⟨aa,_⟩|⟨_,b8,cW,ax,nh,abe,an,gY,jG,kF,_⟩|aa
  ·rw[gk.1]at aa;cases aa
  ·refine ch.pure (r:=.fptr d.t d.x) h (KP ⟨b,o+ti.ty.offs i.toNat,_,rfl,Lp ff,g2⟩) (by simp[ae.ids]) ?_;rw[O1 ax (s:=cW.size) (fun w=>by simp[sizeOf,typeInfo,nh]) ag.1 ag.2];simp[fY,<-an]
  ·rw[gk.2]at aa;cases aa
 ·rename_i b off l;split at e
  ·rename_i ti ew;have q:=go_bif e;clear e;obtain ⟨gk,e⟩:=q;simp only[bB]at gk;have q:=go_chk2 e;clear e;obtain ⟨ag,e⟩:=q;simp only[bB,db]at ag;have q:=go_idxIn _ e;clear e;have e:=q;clear q;obtain ⟨rfl,rfl,rfl⟩:=go_ret e;obtain ⟨rfl,ff⟩:=aw;have a8:i.toNat<ti.fields.length:=by omega
   rcases BQ tab ew (List.getElem?_eq_getElem a8) with ⟨aa,_⟩|⟨_,b8,cW,ax,nh,abe,an,gY,jG,kF,_⟩|aa
   ·rw[gk.1]at aa;cases aa
   ·refine ch.pure (r:=.gp b (off+ti.ty.offs i.toNat) (l.drop (ti.ty.offs i.toNat))) (v:=.pointer (some ⟨b,off+ti.ty.offs i.toNat,none⟩)) h ⟨rfl,?_⟩ (by simp[ae.ids]) ?_
    ·intro j v ay;rw[List.map_drop,List.getElem?_drop]at ay;have:=ff _ v ay
     rwa [<-Nat.add_assoc]at this
    ·rw[O1 ax (s:=cW.size) (fun w=>by simp[sizeOf,typeInfo,nh]) ag.1 ag.2];simp[fY,<-an]
   ·rw[gk.2]at aa;cases aa
  ·simp[HM.go]at e
 ·rename_i t xs;have q:=go_bif e;clear e;obtain ⟨bW,e⟩:=q;obtain ⟨ti,ew,dH⟩:=gh bW;obtain ⟨ax,au⟩:=nS tab ew dH;have q:=go_chk2 e;clear e;obtain ⟨ag,e⟩:=q;simp only[bB,db]at ag;obtain ⟨rfl,rfl,rfl⟩:=go_ret e;obtain ⟨A,m,c,rfl,ph⟩:=cd.list aw;obtain ⟨a,rfl,rfl,az⟩:=Yg (ι:=ι) (show bg φ w (.list t) xs [.slice A m c] from ⟨A,m,c,rfl,ph⟩) (i:=i.toNat) (by omega);exact ch.pure h az (by simp[ae.ids]) (F1 ax au ag.1 ag.2)
 ·rename_i t xs;have q:=go_bif e;clear e;obtain ⟨bW,e⟩:=q;obtain ⟨ti,ew,dH⟩:=gh bW;obtain ⟨ax,au⟩:=nS tab ew dH;have q:=go_chk2 e;clear e;obtain ⟨ag,e⟩:=q;simp only[bB,db]at ag;obtain ⟨rfl,rfl,rfl⟩:=go_ret e;obtain ⟨A,m,rfl,ph⟩:=aw;obtain ⟨a,rfl,rfl,az⟩:=Yg (ι:=ι) ph (i:=i.toNat) (by omega);exact ch.pure h az (by simp[ae.ids]) (F1 ax au ag.1 ag.2)
 ·simp[HM.go]at e
end
open Go.RowKit
section
variable {P:Program} {cx:bS} {φ:bw} {ι:Nat->Value} {w:World} {H:List aG} {n:Nat} {r:ae} {aC:List aG} {aI:Nat}
theorem ajm [Env] (tab:cA P cx) {T:TypeId} {x:ae} {i:Int} (e:(KG cx T x i).go H n=some (r,aC,aI)) (h:bP φ ι w H) {cj:Value} (aw:x.rel φ ι w cj) (k:IntKind):
  ch φ ι w H n r aC aI ((Instr.index T cj (.int k i)).run P w):=by
 unfold KG at e;split at e
 ·rename_i s;have q:=go_bif e;clear e;obtain ⟨bW,e⟩:=q;obtain ⟨ti,ew,dH⟩:=gh bW;have ax:=pS tab ew dH;have q:=go_chk2 e;clear e;obtain ⟨ag,e⟩:=q;simp only[bB,db]at ag;obtain ⟨rfl,rfl,rfl⟩:=go_ret e;obtain rfl:=cd.str.1 aw;refine ch.plain h (Plain.int _ _) ?_;have a8:i.toNat<s.length:=by omega
  have aa:(⟨⟨s⟩⟩:ByteArray)[i.toNat]? =some (s.getD i.toNat 0):=by
   have ad:i.toNat<(⟨⟨s⟩⟩:ByteArray).size:=a8;rw[getElem?_pos (⟨⟨s⟩⟩:ByteArray) i.toNat ad];rw[List.getD_eq_getElem?_getD,List.getElem?_eq_getElem a8];rfl
  unfold Instr.index;simp[asIntOf,run_underlying ax,ag.1,aa]
 ·simp[HM.go]at e
def ma:Option Value->Option Int->Prop
 |none,none=>True
 |some v,some a=> ∃k,v=.int k a
 |_,_=>False
theorem Ax {isSlice:Bool} {m c:Nat} {lo ab:Option Value} {l h:Option Int} (ao:ma lo l) (bC:ma ab h) (bX:0<=l.getD 0) (aa:l.getD 0<=h.getD m) (ad:h.getD m<=m) (al:m<=c):
  (Instr.sliceBounds isSlice m c lo ab none).run P w=.ok ((l.getD 0).toNat,(h.getD m).toNat,c) w:=by
 unfold Instr.sliceBounds Instr.sliceBound;cases lo with
 |none=>
  cases l with
  |some a=>exact ao.elim
  |none=>
   cases ab with
   |none=>
    cases h with
    |some a=>exact bC.elim
    |none=>simp
   |some v=>
    cases h with
    |none=>exact bC.elim
    |some a=>
     obtain ⟨k,rfl⟩:=bC;simp only[Option.getD_none,Option.getD_some]at bX aa ad;have:a<=(c:Int):=by omega
     simp[asIntOf,aa,this]
 |some u=>
  cases l with
  |none=>exact ao.elim
  |some b=>
   obtain ⟨k',rfl⟩:=ao;simp only[Option.getD_some]at bX aa ad ⊢;cases ab with
   |none=>
    cases h with
    |some a=>exact bC.elim
    |none=>
     simp only[Option.getD_none]at aa ad ⊢;simp[asIntOf,bX,aa]
   |some v=>
    cases h with
    |none=>exact bC.elim
    |some a=>
     obtain ⟨k,rfl⟩:=bC;simp only[Option.getD_some]at aa ad ⊢;have aE:0<=a:=by omega
     have aZ:a<=(c:Int):=by omega
     have bt:max a 0=a:=by omega
     simp[asIntOf,bX,aE,aZ,bt,aa]
theorem aij {m c:Nat} {lo:Option Value} {l:Option Int} {k k2:IntKind} {a d:Int} (ao:ma lo l) (bX:0<=l.getD 0) (aa:l.getD 0<=a) (ad:a<=d) (al:d<=m) (aE:m<=c):
  (Instr.sliceBounds true m c lo (some (.int k a)) (some (.int k2 d))).run P w=.ok ((l.getD 0).toNat,a.toNat,d.toNat) w:=by
 unfold Instr.sliceBounds Instr.sliceBound;have aZ:0<=a:=by omega
 have bt:0<=d:=by omega
 have dn:d<=(c:Int):=by omega
 have hX:max d 0=d:=by omega
 have nU:max a 0=a:=by omega
 cases lo with
 |none=>
  cases l with
  |some a=>exact ao.elim
  |none=>simp[asIntOf,aZ,bt,dn,hX,nU,ad]
 |some u=>
  cases l with
  |none=>exact ao.elim
  |some b=>
   obtain ⟨k',rfl⟩:=ao;simp only[Option.getD_some]at bX aa ⊢;simp[asIntOf,bX,aZ,bt,dn,hX,nU,aa,ad]
   try (intro a8;omega)
theorem aiv {m c:Nat} {lo ab:Option Value} {l h:Option Int} (ao:ma lo l) (bC:ma ab h) (bX:0<=l.getD 0) (aa:l.getD 0<=h.getD (m:Int)) (ad:h.getD (m:Int)<=(c:Int)):
  (Instr.sliceBounds true m c lo ab none).run P w=.ok ((l.getD 0).toNat,(h.getD (m:Int)).toNat,c) w:=by
 unfold Instr.sliceBounds Instr.sliceBound;cases lo with
 |none=>
  cases l with
  |some a=>exact ao.elim
  |none=>
   cases ab with
   |none=>
    cases h with
    |some a=>exact bC.elim
    |none=>simp
   |some v=>
    cases h with
    |none=>exact bC.elim
    |some a=>
     obtain ⟨k,rfl⟩:=bC;simp only[Option.getD_none,Option.getD_some]at bX aa ad;have:a<=(c:Int):=by omega
     simp[asIntOf,aa,this]
 |some u=>
  cases l with
  |none=>exact ao.elim
  |some b=>
   obtain ⟨k',rfl⟩:=ao;simp only[Option.getD_some]at bX aa ad ⊢;cases ab with
   |none=>
    cases h with
    |some a=>exact bC.elim
    |none=>
     simp only[Option.getD_none]at aa ad ⊢;simp[asIntOf,bX,aa]
   |some v=>
    cases h with
    |none=>exact bC.elim
    |some a=>
     obtain ⟨k,rfl⟩:=bC;simp only[Option.getD_some]at aa ad ⊢;have aE:0<=a:=by omega
     have aZ:a<=(c:Int):=by omega
     have bt:max a 0=a:=by omega
     simp[asIntOf,bX,aE,aZ,bt,aa]
theorem aii {m c:Nat} {lo:Option Value} {l:Option Int} {k k2:IntKind} {a:Int} (ao:ma lo l) (bX:0<=l.getD 0) (aa:l.getD 0<=a) (ad:a<=m) (al:m<=c):
  (Instr.sliceBounds true m c lo (some (.int k a)) (some (.int k2 a))).run P w=.ok ((l.getD 0).toNat,a.toNat,a.toNat) w:=by
 unfold Instr.sliceBounds Instr.sliceBound;have aE:0<=a:=by omega
 have aZ:a<=(c:Int):=by omega
 cases lo with
 |none=>
  cases l with
  |some a=>exact ao.elim
  |none=>
   have bt:max a 0=a:=by omega
   simp[asIntOf,aE,aZ,bt]
 |some u=>
  cases l with
  |none=>exact ao.elim
  |some b=>
   obtain ⟨k',rfl⟩:=ao;simp only[Option.getD_some]at bX aa ⊢;have bt:max a 0=a:=by omega
   simp[asIntOf,bX,aE,aZ,bt,aa]
   try (intro a8;omega)
theorem bg.part {t:aD} {xs:List t.den} {A A':Option Addr} {m c l h c':Nat} (aB:bg φ w (.list t) xs [.slice A m c]) (aa:l<=h) (ad:h<=m) (al:h-l<=c') (dO:h≠l->A'=A.map (·.add (l*t.size))):
  bg φ w (.list t) ((xs.take h).drop l) [.slice A' (h-l) c']:=by
 obtain ⟨hQ,cr,aY,e,ao,aQ,bC⟩:=aB;injection e with e _
 obtain ⟨rfl,rfl,rfl⟩:=hh e;refine ⟨_,_,_,rfl,by simp[ao];omega,al,?_⟩;by_cases bz:h-l=0
 ·exact .inl bz
 ·refine .inr ?_;rcases bC with bC |⟨b,o,aT,rfl,ff,av⟩
  ·omega
  ·refine ⟨b,o+l*t.size,(aT.take (h*t.size)).drop (l*t.size),by rw[dO (by omega)];simp[fY],?_,(av.take (fun x c=>bg.len t x c) h).drop (fun x c=>bg.len t x c) l⟩;intro i v ab;rw[List.getElem?_drop,List.getElem?_take]at ab;split at ab
   ·have:=ff _ v ab
    rwa [<-Nat.add_assoc]at this
   ·cases ab
theorem sX {T e:TypeId} (ax:P.underlying T=some (.slice e)) {s:Nat} (au: ∀w,(sizeOf e).run P w=.ok s w) {A:Option Addr} {m c:Nat} {lo ab eT:Option Value} {l h c':Nat}
  (ag:(Instr.sliceBounds true m c lo ab eT).run P w=.ok (l,h,c') w):
  (Instr.sliceAt T (.slice A m c) lo ab eT).run P w=.ok (.slice (if c'=l then A else A.map (·.add (l*s))) (h-l) (c'-l)) w:=by
 unfold Instr.sliceAt Instr.slice;simp[run_underlying ax,ag,au]
theorem aiI [Env] (tab:cA P cx) {T:TypeId} {x:ae} {lo ab eT:Option Int} (e:(Kv cx T x lo ab eT).go H n=some (r,aC,aI)) (h:bP φ ι w H) {cj:Value} (aw:x.rel φ ι w cj) (eJ: ∀i∈x.ids,(aF H i).live=true)
  {te aX mv:Option Value} (ao:ma te lo) (bC:ma aX ab) (hm:ma mv eT):
  ch φ ι w H n r aC aI ((Instr.sliceAt T cj te aX mv).run P w):=by
 unfold Kv at e;split at e
 ·rename_i s;cases eT with
  |some m=>simp[HM.go]at e
  |none=>
   cases mv with
   |some v=>exact hm.elim
   |none=>
    simp only at e;have q:=go_bif e;clear e;obtain ⟨bW,e⟩:=q;obtain ⟨ti,ew,dH⟩:=gh bW;have ax:=pS tab ew dH;have q:=go_chk2 e;clear e;obtain ⟨ag,e⟩:=q;simp only[bB,db]at ag;obtain ⟨rfl,rfl,rfl⟩:=go_ret e;obtain rfl:=cd.str.1 aw;refine ch.plain h (Plain.str _) ?_;have j2:=Ax (P:=P) (w:=w) (isSlice:=false) (c:=s.length) ao bC ag.1.1 ag.1.2 ag.2 (Nat.le_refl _);have dh:(⟨⟨s⟩⟩:ByteArray).size=s.length:=rfl;unfold Instr.sliceAt Instr.slice;simp only[Sem.run_bind,run_underlying ax,Result.andThen_ok,dh,j2,Option.isSome_none,Bool.false_eq_true,if_false,Sem.run_pure];congr 2;apply ByteArray.ext;apply Array.ext';simp[ByteArray.data_extract,List.extract_eq_take_drop,List.drop_take]
 ·rename_i t o;cases eT with
  |some wq=>
   cases ab with
   |none=>simp[HM.go]at e
   |some a=>
    cases mv with
    |none=>exact hm.elim
    |some v=>
     obtain ⟨k2,rfl⟩:=hm;cases aX with
     |none=>exact bC.elim
     |some v=>
      obtain ⟨a1,rfl⟩:=bC;simp only at e;have q:=go_bif e;clear e;obtain ⟨bW,e⟩:=q;obtain ⟨ti,ew,dH⟩:=gh bW;obtain ⟨ax,au⟩:=nS tab ew dH;simp only[HM.go]at e;split at e
      ·rename_i b8 u xs fz zM;obtain ⟨ja,an,rfl⟩:=mM zM;have q:=go_bif e;clear e;obtain ⟨hu,e⟩:=q;have hu:u=t:=by simpa using hu
       subst hu;have q:=go_chk2 e;clear e;obtain ⟨ag,e⟩:=q;simp only[bB,db]at ag;obtain ⟨⟨⟨eo,dB⟩,o9⟩,EX⟩:=ag;obtain ⟨rfl,rfl,rfl⟩:=go_ret e;obtain ⟨rfl,_⟩:=aw;have bY:=h.obj o;rw[an]at bY;obtain ⟨A,m,c,ai,aq,bb,bx,E0⟩:=bY;subst aq;rw[ai];have j2:=aij (P:=P) (w:=w) (c:=c) (k:=a1) (k2:=k2) ao eo dB o9 EX bb;exact ch.pure (r:=.undef) h trivial (by simp[ae.ids]) (sX ax au j2)
      ·simp[HM.go]at e
  |none=>
   cases mv with
   |some v=>exact hm.elim
   |none=>
    simp only at e;have q:=go_bif e;clear e;obtain ⟨bW,e⟩:=q;obtain ⟨ti,ew,dH⟩:=gh bW;obtain ⟨ax,au⟩:=nS tab ew dH;simp only[HM.go]at e;split at e
    ·rename_i b8 u xs fz zM;obtain ⟨ja,an,rfl⟩:=mM zM;have q:=go_bif e;clear e;obtain ⟨hu,e⟩:=q;have hu:u=t:=by simpa using hu
     subst hu;have q:=go_chk2 e;clear e;obtain ⟨ag,e⟩:=q;simp only[bB,db]at ag;obtain ⟨rfl,rfl,rfl⟩:=go_ret e;obtain ⟨rfl,_⟩:=aw;have bY:=h.obj o;rw[an]at bY;obtain ⟨A,m,c,ai,aq,bb,bx,E0⟩:=bY;subst aq;rw[ai];have j2:=Ax (P:=P) (w:=w) (isSlice:=true) (c:=c) ao bC ag.1.1 ag.1.2 ag.2 bb;refine ch.pure (r:=.view u o (lo.getD 0).toNat (ab.getD (xs.length:Int)).toNat) h (xV ⟨A,_,c,_,ai,by omega,by omega,bb,rfl,fun cf=>by rw[if_neg cf],?_⟩) (by simpa [ae.ids] using eJ) (sX ax au j2);intro aB;rcases E0 with E0 |⟨b,pre,cur,fr,rfl,_⟩
     ·exact absurd E0 aB
     ·exact ⟨b,_,rfl⟩
    ·simp[HM.go]at e
 ·rename_i t o a z;cases eT with
  |some m=>simp[HM.go]at e
  |none=>
   cases mv with
   |some v=>exact hm.elim
   |none=>
    simp only at e;have q:=go_bif e;clear e;obtain ⟨bW,e⟩:=q;obtain ⟨ti,ew,dH⟩:=gh bW;obtain ⟨ax,au⟩:=nS tab ew dH;simp only[HM.go]at e;split at e
    case h_2=>simp[HM.go]at e
    rename_i b8 u xs fz zM;obtain ⟨ja,an,rfl⟩:=mM zM;have q:=go_bif e;clear e;obtain ⟨hu,e⟩:=q;have hu:u=t:=by simpa using hu
    subst hu;have q:=go_chk2 e;clear e;obtain ⟨ag,e⟩:=q;simp only[bB,db]at ag;obtain ⟨rfl,rfl,rfl⟩:=go_ret e;obtain ⟨A,m,c,A',ai,aa,ad,al,rfl,dO,cG⟩:=aw;have bY:=h.obj o;rw[an]at bY;obtain ⟨hQ,cr,aY,fy,aq,-⟩:=bY;rw[ai]at fy;obtain ⟨rfl,rfl,rfl⟩:=hh fy;have j2:=aiv (P:=P) (w:=w) (m:=z-a) (c:=c-a) ao bC ag.1.1 ag.1.2 (by omega);refine ch.pure (r:=.view u o (a+(lo.getD 0).toNat) (a+(ab.getD ((z-a:Nat):Int)).toNat)) h (xV ⟨A,m,c,if c-a=(lo.getD 0).toNat then A' else A'.map (·.add ((lo.getD 0).toNat*u.size)),ai,by omega,by omega,al,?_,?_,cG⟩) (by simpa [ae.ids] using eJ) (sX ax au j2)
    ·congr 1<;>omega
    ·intro cf;rw[if_neg (by omega),dO (by omega)];cases A with
     |none=>rfl
     |some agJ=>
      obtain ⟨b,bk,gA⟩:=cG (by omega);injection gA with gA
      subst gA;simp[fY,Nat.add_mul,Nat.add_assoc]
 ·rename_i b8 t;cases eT with
  |some m=>simp[HM.go]at e
  |none=>
   cases mv with
   |some v=>exact hm.elim
   |none=>
    simp only at e;have q:=go_bif e;clear e;obtain ⟨bW,e⟩:=q;obtain ⟨ti,ew,dH⟩:=gh bW;obtain ⟨ax,au⟩:=nS tab ew dH;have q:=go_chk2 e;clear e;obtain ⟨ag,e⟩:=q;simp only[bB,db]at ag;obtain ⟨eo,dB⟩:=ag;obtain ⟨rfl,rfl,rfl⟩:=go_ret e;simp only[ae.rel]at aw;subst aw;have o9:ab.getD ((0:Nat):Int)=0:=by simpa using dB
    have j2:=Ax (P:=P) (w:=w) (isSlice:=true) (m:=0) (c:=0) ao bC (by omega) (by rw[eo,o9];exact Int.le_refl _) (by rw[o9];exact Int.le_refl _) (Nat.le_refl _);rw[eo,o9]at j2;exact ch.pure (r:=.nils b8 t) (v:=.slice none 0 0) h (by simp[ae.rel]) (by simp[ae.ids]) (by simpa using sX ax au j2)
 ·obtain ⟨d,H1,cC,ai,aq⟩:=HM.go_bind_some e;obtain ⟨rfl,φ',g,vS⟩:=re x φ cj H n d H1 cC ai h aw eJ;clear e;split at aq
  ·rename_i t xs;have q:=go_bif aq;clear aq;obtain ⟨bW,aq⟩:=q;obtain ⟨ti,ew,dH⟩:=gh bW;obtain ⟨ax,au⟩:=nS tab ew dH;obtain ⟨A,m,c,rfl,hlen,sM,ph⟩:=cd.list vS;have nf:bg φ' w (.list t) xs [.slice A m c]:=⟨A,m,c,rfl,hlen,sM,ph⟩;subst hlen;cases eT with
   |none=>
    cases mv with
    |some v=>exact hm.elim
    |none=>
     simp only at aq;have q:=go_chk2 aq;clear aq;obtain ⟨ag,aq⟩:=q;simp only[bB,db]at ag;obtain ⟨rfl,rfl,rfl⟩:=go_ret aq;have j2:=Ax (P:=P) (w:=w) (isSlice:=true) (c:=c) ao bC ag.1.1 ag.1.2 ag.2 sM;have aq0:List.length xs<=c:=sM;have bh:(lo.getD 0).toNat<=(ab.getD (List.length xs:Int)).toNat:=by omega
     have bZ:(ab.getD (List.length xs:Int)).toNat<=List.length xs:=by omega
     have vD:=bg.part (A':=if c=(lo.getD 0).toNat then A else A.map (·.add ((lo.getD 0).toNat*t.size))) (c':=c-(lo.getD 0).toNat) nf bh bZ (by omega) (fun cf=>by rw[if_neg (by omega)]);exact ch.ghost g (gz ⟨vD,rfl⟩) (by simp[ae.ids]) (sX ax au j2)
   |some wq=>
    cases mv with
    |none=>exact hm.elim
    |some v=>
     obtain ⟨k2,rfl⟩:=hm;cases ab with
     |none=>simp[HM.go]at aq
     |some a=>
      cases aX with
      |none=>exact bC.elim
      |some v=>
       obtain ⟨a1,rfl⟩:=bC;simp only at aq;have q:=go_chk2 aq;clear aq;obtain ⟨ag,aq⟩:=q;simp only[bB,db]at ag;obtain ⟨⟨⟨eo,dB⟩,o9⟩,rfl⟩:=ag;obtain ⟨rfl,rfl,rfl⟩:=go_ret aq;have j2:=aii (P:=P) (w:=w) (c:=c) (k:=a1) (k2:=k2) ao eo dB o9 sM;have aq0:List.length xs<=c:=sM;have bh:(lo.getD 0).toNat<=a.toNat:=by omega
       have bZ:a.toNat<=List.length xs:=by omega
       have vD:=bg.part (A':=if a.toNat=(lo.getD 0).toNat then A else A.map (·.add ((lo.getD 0).toNat*t.size))) (c':=a.toNat-(lo.getD 0).toNat) nf bh bZ (Nat.le_refl _) (fun cf=>by rw[if_neg cf]);exact ch.ghost g (api ⟨_,_,rfl,vD⟩) (by simp[ae.ids]) (sX ax au j2)
  ·simp[HM.go]at aq
theorem ajI [Env] (tab:cA P cx) {T:TypeId} {x:ae} {lo ab eT:Option Int} (e:(KR cx T x lo ab eT).go H n=some (r,aC,aI)) (h:bP φ ι w H) {cj:Value} (aw:x.rel φ ι w cj) (eJ: ∀i∈x.ids,(aF H i).live=true)
  {te aX mv:Option Value} (ao:ma te lo) (bC:ma aX ab) (hm:ma mv eT):
  ch φ ι w H n r aC aI ((Instr.sliceAt T cj te aX mv).run P w):=by
 unfold KR at e;split at e
 ·rename_i t xs a;have q:=go_bif e;clear e;obtain ⟨bW,e⟩:=q;obtain ⟨ti,ew,dH⟩:=gh bW;obtain ⟨ax,au⟩:=nS tab ew dH;have q:=go_chk2 e;clear e;obtain ⟨ag,e⟩:=q;simp only[bB,db]at ag;obtain ⟨rfl,rfl,rfl⟩:=go_ret e;obtain ⟨A,m,rfl,nf⟩:=aw;have hlen:xs.length=m:=by
   obtain ⟨hQ,cr,aY,ai,ao,_⟩:=nf;injection ai with ai _
   obtain ⟨rfl,rfl,rfl⟩:=hh ai;exact ao
  subst hlen;cases mv with
  |some v=>exact hm.elim
  |none=>
   have j2:=Ax (P:=P) (w:=w) (isSlice:=true) (m:=xs.length) (c:=xs.length) ao bC (by simp) (by simpa using ag.1) (by simpa using ag.2) (Nat.le_refl _);have bZ:a.toNat<=List.length xs:=by have:=ag.2;omega
   have vD:=bg.part (A':=if xs.length=0 then A else A.map (·.add (0*t.size))) (l:=0) (h:=a.toNat) (c':=xs.length) nf (Nat.zero_le _) bZ (by omega) (fun cf=>by rw[if_neg (by omega)]);simp only[List.drop_zero,Nat.sub_zero]at vD;have dU:=sX (A:=A) ax au j2;simp only[Option.getD_none,Option.getD_some,Int.toNat_zero,Nat.sub_zero]at dU;exact ch.pure (r:=.lim t (xs.take a.toNat) xs.length) h (show ae.rel φ ι w (.lim t (xs.take a.toNat) xs.length) _ from ⟨_,_,rfl,vD⟩) (by simp[ae.ids]) dU
 ·exact aiI tab e h aw eJ ao bC hm
end
open Go.RowKit
section
variable {P:Program} {cx:bS} {φ:bw} {ι ι':Nat->Value} {w w':World} {H aC:List aG} {n:Nat}
theorem tR [Env] (h:bP φ ι w H) {o b:Nat} (an:(aF H o).owns=true) (ag:c1 (ι o)=some b):b<w.heap.size:=by
 have az:=h.obj o;cases cP:aF H o with
 |arr e t xs fz=>
  rw[cP]at az;obtain ⟨n,c,pre,cur,fr,_,_,_,_,_,aa,_⟩:=az.blk_arr ag;exact (Array.getElem?_eq_some_iff.1 aa).1
 |box T t r=>
  rw[cP]at az;obtain ⟨bJ,cur,fr,v,ai,aa,_⟩:=az;rw[ai]at ag;have:bJ=b:=by simpa [c1] using ag
  subst this;exact (Array.getElem?_eq_some_iff.1 aa).1
 |iter s pos=>
  rw[cP]at az;obtain ⟨bJ,n,ai,aa,_⟩:=az;rw[ai]at ag;have:bJ=b:=by simpa [c1] using ag
  subst this;exact (Array.getElem?_eq_some_iff.1 aa).1
 |loop Y R p=>
  rw[cP]at az;obtain ⟨l,rec,c,ai,aa⟩:=az;rw[ai]at ag;have:l=b:=by simpa [c1] using ag
  subst this;exact (Array.getElem?_eq_some_iff.1 aa.heap).1
 |hole=>rw[cP]at an;cases an
 |gone=>rw[cP]at an;cases an
theorem jm [Env] (h:bP φ ι w H) {b k:Nat} (ag:φ b k):b<w.heap.size:=by
 obtain ⟨v,aX⟩:=h.phi b k ag;exact World.block_lt_of_cell? w _ aX
theorem bP.update [Env] (h:bP φ ι w H) (C:Nat->Prop) (av: ∀i,¬C i->aF aC i=aF H i) (ab: ∀i,(aF H i).live=true->ι' i=ι i) (ao: ∀i,(aF H i).live=true->(aF aC i).live=true)
  (aB: ∀i,C i->hS φ ι' w' i (aF aC i)) (aql: ∀i,C i-> ∀j∈(aF aC i).ids,(aF aC j).live=true)
  (hw: ∀i b,¬C i->(aF H i).owns=true->c1 (ι i)=some b->w'.heap[b]? =w.heap[b]?) (iQ: ∀b k,φ b k->w'.cell? ⟨b,k,none⟩=w.cell? ⟨b,k,none⟩)
  (qM: ∀i j b,C i->(aF aC i).owns=true->(aF aC j).owns=true->c1 (ι' i)=some b->c1 (ι' j)=some b->i=j):bP φ ι' w' aC:=by
 have eH: ∀i,(aF H i).owns=true->(aF H i).live=true:=fun i an=>by cases cP:aF H i<;>rw[cP]at an<;>first |rfl |(cases an)
 refine ⟨fun i=> ?_,fun i j b hJ jH aa ad=> ?_,fun b k ag=> ?_,fun i j ay=> ?_,fun g=>(h.glob g).mono (fun _ _ h=>h) iQ⟩
 ·by_cases dg:C i
  ·exact aB i dg
  ·rw[av i dg];refine (h.obj i).keep (fun _ _ h=>h) iQ (ab i) (fun j ay=>ab j (h.ids i j ay)) fun b an ag=>⟨hw i b dg an ag,fun _ h=>h⟩
 ·by_cases dg:C i
  ·exact qM i j b dg hJ jH aa ad
  ·by_cases aam:C j
   ·exact (qM j i b aam jH hJ ad aa).symm
   ·rw[av i dg]at hJ;rw[av j aam]at jH;rw[ab i (eH i hJ)]at aa;rw[ab j (eH j jH)]at ad;exact h.apart i j b hJ jH aa ad
 ·rw[iQ b k ag];exact h.phi b k ag
 ·by_cases dg:C i
  ·exact aql i dg j ay
  ·rw[av i dg]at ay;exact ao j (h.ids i j ay)
def dw (ι:Nat->Value) (n:Nat) (v:Value):Nat->Value:=fun i=>if i=n then v else ι i
structure gG (w w':World):Prop where
 os:w'.os=w.os
 tape:w'.tape=w.tape
 output:w'.output=w.output
 size:w.heap.size<=w'.heap.size
 blocks: ∀b,b<w.heap.size->w'.heap[b]? =w.heap[b]?
theorem gG.cell (g:gG w w') {b k:Nat} (ag:b<w.heap.size):w'.cell? ⟨b,k,none⟩=w.cell? ⟨b,k,none⟩:=by simp[World.cell?,g.blocks b ag]
theorem gG.alloc (w:World) (o:Obj):gG w (w.alloc o):=⟨rfl,rfl,rfl,by simp,fun b ag=>Below.heap_alloc w o b ag⟩
theorem gG.drew_alloc (w:World) (o:Obj):gG w (w.drew.alloc o):=⟨rfl,rfl,rfl,by simp,fun b ag=>Below.heap_alloc w.drew o b ag⟩
theorem ys [Env] (h:bP φ ι w H) (aQ:n<=H.length) (aJ:(aF H n).live=false) (g:gG w w') {v:Value} {ob:aG} (cP:hS φ (dw ι n v) w' n ob) (eu: ∀i∈ob.ids,(aF H i).live=true) (ft:ob.live=true)
  (h9: ∀b,c1 v=some b->w.heap.size<=b):
  bP φ (dw ι n v) w' (bL H n ob)/\Step φ ι w H φ (dw ι n v) w' (bL H n ob)/\dA ι H (dw ι n v) (bL H n ob)/\hs H n (bL H n ob) (n+1):=by
 have bo: ∀i,aF (bL H n ob) i=if i=n then ob else aF H i:=fun i=>fk H n ob i aQ
 have cf: ∀i,(aF H i).live=true->i≠n:=fun i ab e=>by subst e;rw[aJ]at ab;cases ab
 have eH: ∀i,(aF H i).owns=true->(aF H i).live=true:=fun i an=>by cases cP:aF H i<;>rw[cP]at an<;>first |rfl |(cases an)
 have ab: ∀i,(aF H i).live=true->dw ι n v i=ι i:=fun i ab=>by simp[dw,cf i ab]
 have ao: ∀i,(aF H i).live=true->(aF (bL H n ob) i).live=true:=fun i h=>by rw[bo,if_neg (cf i h)];exact h
 have iQ: ∀b k,φ b k->w'.cell? ⟨b,k,none⟩=w.cell? ⟨b,k,none⟩:=fun b k ag=>g.cell (jm h ag)
 refine ⟨h.update (fun i=>i=n) (fun i dg=>by rw[bo,if_neg dg]) ab ao ?_ ?_ (fun i b _ an ag=>g.blocks b (tR h an ag)) iQ ?_,?_,⟨ab,ao⟩,?_⟩
 ·rintro i rfl;rw[bo,if_pos rfl];exact cP
 ·rintro i rfl j ay;rw[bo,if_pos rfl]at ay;exact ao j (eu j ay)
 ·rintro i j b rfl aa ad al aE;by_cases ay:j=i
  ·exact ay.symm
  ·rw[bo,if_neg ay]at ad;rw[ab j (eH j ad)]at aE;have:=tR h ad aE;have:=h9 b (by simpa [dw] using al);omega
 ·refine ⟨fun _ _ h=>h,iQ,fun _ _ h=>.inl h,g.size,g.os,g.tape,g.output,fun b ag _=>g.blocks b ag,fun b ag=> ?_⟩;obtain ⟨o,aa,ad⟩:=ag;rw[bo]at aa;split at aa
  ·rename_i e;subst e;exact .inl (h9 b (by simpa [dw] using ad))
  ·rename_i e;exact .inr ⟨o,aa,by simpa [dw,e] using ad⟩
 ·refine ⟨by omega,?_,fun h=> ?_,fun i ab=>by rw[bo,if_neg (by omega)],fun h=> ?_⟩
  ·rcases Nat.lt_or_ge n H.length with aa |aa
   ·rw[gK H n ob aa];exact Nat.le_refl _
   ·have:n=H.length:=by omega
    subst this;rw[rk];omega
  ·rcases Nat.lt_or_ge n H.length with aa |aa
   ·rw[gK H n ob aa];exact aa
   ·have:n=H.length:=by omega
    subst this;rw[rk];exact Nat.le_refl _
  ·subst h;rw[rk]
structure hE (w w':World) (b:Nat):Prop where
 os:w'.os=w.os
 tape:w'.tape=w.tape
 output:w'.output=w.output
 size:w'.heap.size=w.heap.size
 blocks: ∀k,k≠b->w'.heap[k]? =w.heap[k]?
theorem hE.refl (w:World) (b:Nat):hE w w b:=⟨rfl,rfl,rfl,rfl,fun _ _=>rfl⟩
theorem hE.trans {Bm:World} {b:Nat} (g:hE w w' b) (k:hE w' Bm b):hE w Bm b:=
 ⟨k.os.trans g.os,k.tape.trans g.tape,k.output.trans g.output,k.size.trans g.size,fun i ab=>(k.blocks i ab).trans (g.blocks i ab)⟩
theorem hE.cell {b:Nat} (g:hE w w' b) {c k:Nat} (ag:c≠b):w'.cell? ⟨c,k,none⟩=w.cell? ⟨c,k,none⟩:=by simp[World.cell?,g.blocks c ag]
theorem yr [Env] (h:bP φ ι w H) {o b:Nat} (an:(aF H o).owns=true) (ag:c1 (ι o)=some b) (g:hE w w' b) (iQ: ∀k,¬φ b k) {ob:aG} (cP:hS φ ι w' o ob) (eu: ∀i∈ob.ids,(aF H i).live=true) (ft:ob.owns=true):
  bP φ ι w' (bL H o ob)/\Step φ ι w H φ ι w' (bL H o ob)/\dA ι H ι (bL H o ob)/\hs H n (bL H o ob) n:=by
 have eH: ∀i,(aF H i).owns=true->(aF H i).live=true:=fun i an=>by cases cP:aF H i<;>rw[cP]at an<;>first |rfl |(cases an)
 have a8:=fl (eH o an);have bo: ∀i,aF (bL H o ob) i=if i=o then ob else aF H i:=fun i=>fk H o ob i (Nat.le_of_lt a8)
 have aqZ:ob.live=true:=by cases ob<;>first |rfl |(cases ft)
 have pe: ∀i,(aF (bL H o ob) i).live=(aF H i).live:=fun i=>by
  rw[bo];split
  ·rename_i e;subst e;rw[aqZ,eH i an]
  ·rfl
 have ao: ∀i,(aF H i).live=true->(aF (bL H o ob) i).live=true:=fun i h=>by rw[pe];exact h
 have Af: ∀c k,φ c k->w'.cell? ⟨c,k,none⟩=w.cell? ⟨c,k,none⟩:=fun c k aB=>g.cell (fun e=>iQ k (e▸aB))
 refine ⟨h.update (fun i=>i=o) (fun i dg=>by rw[bo,if_neg dg]) (fun _ _=>rfl) ao ?_ ?_ (fun i c dg hJ aB=>g.blocks c ?_) Af ?_,?_,⟨fun _ _=>rfl,ao⟩,?_⟩
 ·rintro i rfl;rw[bo,if_pos rfl];exact cP
 ·rintro i rfl j ay;rw[bo,if_pos rfl]at ay;exact ao j (eu j ay)
 ·rintro rfl;exact dg (h.apart i o c hJ an aB ag)
 ·rintro i j c rfl aa ad al aE;by_cases ay:j=i
  ·exact ay.symm
  ·rw[bo,if_neg ay]at ad;exact h.apart i j c an ad al aE
 ·refine ⟨fun _ _ h=>h,Af,fun _ _ h=>.inl h,by rw[g.size];exact Nat.le_refl _,g.os,g.tape,g.output,fun c aB aQ=>g.blocks c (fun e=>aQ ⟨o,an,e▸ag⟩),fun c aB=> ?_⟩;obtain ⟨i,aa,ad⟩:=aB;rw[bo]at aa;split at aa
  ·rename_i e;subst e;exact .inr ⟨i,an,ad⟩
  ·exact .inr ⟨i,aa,ad⟩
 ·exact ⟨Nat.le_refl _,by rw[gK H o ob a8];exact Nat.le_refl _,fun h=>by rw[gK H o ob a8];exact h,fun i _=>pe i,fun h=>by rw[gK H o ob a8,h]⟩
theorem J9 (pre cur:Array Value) (news:List Value) (a l:Nat):((pre++cur).toList.take (pre.size+a)++news++(pre++cur).toList.drop (pre.size+a+l)).toArray=pre++(cur.toList.take a++news++cur.toList.drop (a+l)).toArray:=by
 apply Array.ext';have aa:(pre++cur).toList.take (pre.size+a)=pre.toList++cur.toList.take a:=by
  rw[Array.toList_append,show pre.size=pre.toList.length by simp,List.take_length_add_append]
 have ad:(pre++cur).toList.drop (pre.size+a+l)=cur.toList.drop (a+l):=by
  rw[Array.toList_append,show pre.size+a+l=pre.toList.length+(a+l) by simp;omega,<-List.drop_drop,List.drop_left]
 rw[aa,ad];simp
theorem DM (pre cur:Array Value) (k:Nat):(pre++cur)[pre.size+k]? =cur[k]? :=by
 rw[Array.getElem?_append_right (by omega),show pre.size+k-pre.size=k by omega]
theorem ape (pre cur:Array Value) (k:Nat):(pre++cur).toList.drop (pre.size+k)=cur.toList.drop k:=by
 rw[Array.toList_append,show pre.size+k=pre.toList.length+k by simp,<-List.drop_drop,List.drop_left]
theorem Gi (P:Program) {b:Nat} {e:TypeId} {fr:Nat×Nat} (o:Nat): ∀(vs:List Value) (i:Nat) (cur:Array Value) (w:World),w.heap[b]? =some (.cells cur e fr)->qG fr cur.size->o+i+vs.length<=cur.size->(∀v∈vs,v.oneCell'=true)->
  ∃w',(storeCells ⟨b,o,none⟩ vs i).run P w=.ok () w'/\w'.heap[b]? =some (.cells (cur.toList.take (o+i)++vs++cur.toList.drop (o+i+vs.length)).toArray e fr)/\hE w w' b
 |[],i,cur,w,ag,aJ,ao,aa=>⟨w,rfl,by simp[ag],hE.refl w b⟩
 |v::r,i,cur,w,ag,aJ,ao,aa=>by
  simp only[List.length_cons]at ao;have a8:o+i<cur.size:=by omega
  have aB:w.cell? ⟨b,o+i,none⟩=some cur[o+i]:=by rw[n8 ag,Array.getElem?_eq_getElem a8]
  have bz:w.frozen? ⟨b,o+i,none⟩=false:=by
   have:=aJ (o+i) a8;simp only[World.frozen?,ag];simp only[Bool.and_eq_false_iff,decide_eq_false_iff_not];omega
  have fF:(store ((⟨b,o,none⟩:Addr).add i) v).run P w=.ok () (w.setCell ⟨b,o+i,none⟩ v):=by
   rw[fY,run_store P w _ v _ (aa v (by simp)),aB];simp[bz]
  have eo:(w.setCell ⟨b,o+i,none⟩ v).heap[b]? =some (.cells (cur.setIfInBounds (o+i) v) e fr):=by
   simp only[World.setCell,Array.getElem?_modify,ag,if_pos,Option.map_some];simp
  have fG:hE w (w.setCell ⟨b,o+i,none⟩ v) b:=⟨rfl,rfl,rfl,by simp[World.setCell],fun k av=>Below.heap_setCell w _ v k av⟩;obtain ⟨w',ad,al,aE⟩:=Gi P o r (i+1) (cur.setIfInBounds (o+i) v) (w.setCell ⟨b,o+i,none⟩ v) eo (by simpa using aJ) (by simp;omega) (fun x aw=>aa x (by simp[aw]));refine ⟨w',?_,?_,fG.trans aE⟩
  ·simp only[storeCells,Sem.run_bind,fF,Result.andThen_ok,ad]
  ·rw[al];congr 2;apply Array.ext';simp only[Array.toList_setIfInBounds,List.length_cons];have zJ:o+i<cur.toList.length:=by simpa using a8
   rw[show o+(i+1)=o+i+1 by omega,List.take_set,List.drop_set_of_lt (by omega),List.take_succ_eq_append_getElem zJ];have hlen:(cur.toList.take (o+i)).length=o+i:=by simp;omega
   rw[List.set_append_right _ _ (by omega),hlen];simp[show o+i+1+r.length=o+i+(r.length+1) by omega]
end
open Go.RowKit
section
variable {P:Program} {cx:bS} {φ:bw} {ι ι':Nat->Value} {w w':World} {H:List aG} {n:Nat} {r:ae} {aC:List aG} {aI:Nat}
mutual
theorem ae.rel_one: ∀(r:ae) (t:aD) (v:Value),r.rel φ ι w v->r.fits t=true-> ∀u∈v.cells.toList,u.oneCell'=true
 | .dat u x,t,v,h,aJ=>h.1.one _ _ _
 | .nils _ u,t,v,h,aJ=>by
  simp only[ae.rel]at h;subst h;intro u hu;simp[Value.cells]at hu;subst hu;rfl
 | .own u o,t,v,h,aJ=>by
  obtain ⟨_,A,n,c,rfl⟩:=h;intro u hu;simp[Value.cells]at hu;subst hu;rfl
 | .agg l,t,v,h,aJ=>by
  obtain ⟨cs,rfl,h⟩:=h;exact ae.relL_one l t cs.toList h (by simpa [ae.fits] using aJ)
 | .ptr o u i p,t,v,h,aJ=>by
  obtain ⟨b,_,_,rfl,_⟩:=h;intro u hu;simp[Value.cells]at hu;subst hu;rfl
 | .fptr u x,t,v,h,aJ=>by
  obtain ⟨b,o,cs,rfl,_⟩:=h;intro u hu;simp[Value.cells]at hu;subst hu;rfl
 | .fn f a b,t,v,h,aJ=>by
  obtain ⟨x,y,rfl,_⟩:=h;intro u hu;simp[Value.cells]at hu;subst hu;rfl
 | .iface T r,t,v,h,aJ=>by
  obtain ⟨u,rfl,_⟩:=h;intro u hu;simp[Value.cells]at hu;subst hu;rfl
 | .nilI,t,v,h,aJ=>by
  simp only[ae.rel]at h;subst h;intro u hu;simp[Value.cells]at hu;subst hu;rfl
 | .nilF,t,v,h,aJ=>by
  simp only[ae.rel]at h;subst h;intro u hu;simp[Value.cells]at hu;subst hu;rfl
 | .nilP,t,v,h,aJ=>by
  simp only[ae.rel]at h;subst h;intro u hu;simp[Value.cells]at hu;subst hu;rfl
 | .undef,_,_,_,aJ=>by simp[ae.fits]at aJ
 | .atl _,_,_,_,aJ=>by simp[ae.fits]at aJ
 | .lim ..,_,_,_,aJ=>by simp[ae.fits]at aJ
 | .yld Y o,t,v,h,aJ=>by
  obtain ⟨_,l,rfl⟩:=h;intro u hu;simp[Value.cells]at hu;subst hu;rfl
 | .gp ..,_,_,_,aJ=>by simp[ae.fits]at aJ
 | .dfr ..,_,_,_,aJ=>by simp[ae.fits]at aJ
 | .clip ..,_,_,_,aJ=>by simp[ae.fits]at aJ
 | .nilv,_,_,_,aJ=>by simp[ae.fits]at aJ
 | .view ..,_,_,_,aJ=>by simp[ae.fits]at aJ
 | .tup _,_,_,_,aJ=>by simp[ae.fits]at aJ
theorem ae.relL_one: ∀(l:List ae) (t:aD) (cs:List Value),ae.relL φ ι w l cs->ae.fitsL l t=true-> ∀u∈cs,u.oneCell'=true
 |[],t,cs,h,aJ=>by
  simp only[ae.relL]at h;subst h;simp
 |r::l,t,cs,⟨v,aY,e,aa,ad⟩,aJ=>by
  subst e;cases t with
  |pair a b=>
   simp only[ae.fitsL,bB]at aJ;intro u hu;rcases List.mem_append.1 hu with hu |hu
   ·exact ae.rel_one r a v aa aJ.1 u hu
   ·exact ae.relL_one l b aY ad aJ.2 u hu
  |_=>simp[ae.fitsL]at aJ
end
theorem uO {T:TypeId} {v:Value} (h:r.rel φ ι w v):(cx.typ T r).rel φ ι w v:=by
 unfold bS.typ;split
 ·split
  ·split
   ·exact h
   ·trivial
  ·trivial
 ·exact h
theorem uN {T:TypeId}: ∀i∈(cx.typ T r).ids,i∈r.ids:=by
 unfold bS.typ;split
 ·split
  ·split<;>simp[ae.ids]
  ·simp[ae.ids]
 ·exact fun _ h=>h
theorem JD [Env] {x:ae} (e:(yu x).go H n=some (r,aC,aI)) (h:bP φ ι w H) {v:Value} (aw:x.rel φ ι w v) (eJ: ∀i∈x.ids,(aF H i).live=true):
  aI=n/\ ∃φ',ee φ ι w H φ' aC/\r.rel φ' ι w v/\ ∀i∈r.ids,(aF aC i).live=true:=by
 unfold yu at e;split at e
 ·obtain ⟨d,H1,cC,ai,aq⟩:=HM.go_bind_some e;obtain ⟨rfl,rfl,rfl⟩:=go_ret aq;obtain ⟨aQ,φ',g,aX⟩:=re _ φ v H n d aC aI ai h aw eJ;exact ⟨aQ,φ',g,gz aX,by simp[ae.ids]⟩
 ·obtain ⟨rfl,rfl,rfl⟩:=go_ret e;obtain ⟨A,m,rfl,aB⟩:=aw;exact ⟨rfl,φ,ee.refl h,gz ⟨aB,rfl⟩,by simp[ae.ids]⟩
 ·obtain ⟨rfl,rfl,rfl⟩:=go_ret e;exact ⟨rfl,φ,ee.refl h,aw,eJ⟩
theorem XO (m:Nat):qG (0,0) m:=fun k _ h=>by omega
theorem tS (t:aD) (m:Nat):vt t (0,0) m:=⟨XO m,.inr (by simp)⟩
def hD (H:List aG) (n aI:Nat):Prop:=n<=H.length/\ ∀i,n<=i->i<aI->(aF H i).live=false
theorem hD.ghost [Env] {φ':bw} (f:hD H n aI) (g:ee φ ι w H φ' aC):hD aC n aI:=⟨by rw[g.len];exact f.1,fun i aa ad=>by rw[g.live];exact f.2 i aa ad⟩
theorem anb (T:TypeId) (v:Value):(newVar T v).run P w=.ok ⟨w.heap.size,0,none⟩ (w.alloc (.cells v.cells T)):=by simp[newVar,newRow]
theorem af5 [Env] (h:bP φ ι w H) {T:TypeId} {t:aD} {v:Value} (az:r.rel φ ι w v) (aJ:r.fits t=true) (ao: ∀i∈r.ids,(aF H i).live=true) (aQ:n<=H.length) (gB:(aF H n).live=false) (aU:(t.at_ []).isSome=true):
  ch φ ι w H n (.ptr n t 0 []) (bL H n (.box T t r)) (n+1) (.ok (.pointer (some ⟨w.heap.size,0,none⟩)) (w.alloc (.cells v.cells T))):=by
 obtain ⟨dh,_⟩:=ae.rel_fits r t v az aJ;have cf: ∀i∈r.ids,i≠n:=fun i ab e=>by have:=ao i ab;rw[e,gB]at this;cases this
 have g:=gG.alloc w (.cells v.cells T);have ag:(w.alloc (.cells v.cells T)).heap[w.heap.size]? =some (.cells v.cells T (0,0)):=heap_alloc_new w _;have ND:r.rel φ (dw ι n (.pointer (some ⟨w.heap.size,0,none⟩))) (w.alloc (.cells v.cells T)) v:=
  ae.rel_mono (fun _ _ h=>h) (fun b k ag=>g.cell (jm h ag)) r v (fun i ab=>by simp[dw,cf i ab]) az
 obtain ⟨aa,ad,al,aE⟩:=ys (v:=.pointer (some ⟨w.heap.size,0,none⟩)) (ob:=.box T t r) h aQ gB g
  ⟨w.heap.size,v.cells,(0,0),v,by simp[dw],ag,dh,XO _,ae.rel_one r t v az aJ,ND,rfl,aJ,fun k av=>by have:=jm h av;omega⟩ ao rfl
  (fun b ag=>by
          have:w.heap.size=b:=by simpa [c1] using ag
          omega)
 refine ⟨_,_,φ,_,rfl,aa,ad,al,aE,uL ⟨w.heap.size,0,.inr ⟨by simp[dw],rfl,rfl⟩,by simp[aD.offAt],aU⟩,?_⟩;intro i ab;have:i=n:=by simpa [ae.ids] using ab
 subst this;rw[fk H i _ i aQ,if_pos rfl];rfl
theorem VT [Env] (tab:cA P cx) {T:TypeId} {x:ae} (e:(yl cx T x).go H n=some (r,aC,aI)) (h:bP φ ι w H) {v:Value} (aw:x.rel φ ι w v) (eJ: ∀i∈x.ids,(aF H i).live=true) (ds:hD H n aI):
  ch φ ι w H n r aC aI ((Instr.box T v).run P w):=by
 unfold yl at e;split at e
 ·rename_i i ab;obtain ⟨y,H1,cC,ai,aq⟩:=HM.go_bind_some e;clear e;obtain ⟨rfl,cU,g1,bf,q1⟩:=JD ai h (uO aw) (fun i ab=>eJ i (uN i ab));have q:=go_bif aq;clear aq;obtain ⟨aJ,aq⟩:=q;simp only[HM.go,bs,ct]at aq;obtain ⟨rfl,rfl,rfl⟩:=aq;have iM:=ds.ghost g1;obtain ⟨jR,w',φ',ι',a1,k2,b5,dD,fZ,hj,vZ⟩:=af5 (T:=T) g1.rel bf aJ q1 iM.1 (iM.2 cC (Nat.le_refl _) (by omega)) rfl;injection a1 with a1 Of
  subst a1 Of;exact ⟨_,_,φ',ι',by simp[Instr.box,anb],k2,g1.step.trans b5,g1.keep.trans dD,(g1.nx _).trans fZ,hj,vZ⟩
 ·simp[HM.go]at e
theorem XJ (tab:cA P cx) {T:TypeId} {z:ae} (bz:cx.zeroRV 20 T=some z) (ab: ∃i,cx.ti T=some i): ∃i v,cx.ti T=some i/\(∀w,(zeroValue T).run P w=.ok v w)/\v.cells.size=i.ty.size/\iy v=i.ty.isAgg/\z.fits i.ty=true/\z.ids=[]/\ ∀φ ι w,z.rel φ ι w v:=by
 obtain ⟨i,ab⟩:=ab;obtain ⟨info,aa,ad,al⟩:=(tab T i ab).info;obtain ⟨v,a1,k2,b5,dD,fZ,hj⟩:=al z bz;exact ⟨i,v,ab,fun w=>by simp[zeroValue,typeInfo,aa,a1],k2,b5,dD,fZ,hj⟩
theorem ajr [Env] (tab:cA P cx) {T:TypeId} (e:(KJ cx T).go H n=some (r,aC,aI)) (h:bP φ ι w H) (ds:hD H n aI):
  ch φ ι w H n r aC aI ((Instr.alloc T true (.tuple #[])).run P w):=by
 unfold KJ at e;split at e
 ·rename_i z bz;have ab: ∃i,cx.ti T=some i:=by
   cases ab:cx.ti T with
   |some i=>exact ⟨i,rfl⟩
   |none=>simp[yl,ab,HM.go]at e
  obtain ⟨i,v,_,dU,_,_,_,eu,az⟩:=XJ tab bz ab;have:=VT tab e h (az φ ι w) (by rw[eu];simp) ds;have aq:(Instr.alloc T true (.tuple #[])).run P w=(Instr.box T v).run P w:=by
   unfold Instr.alloc;simp[dU,Instr.box]
  rw[aq];exact this
 ·simp[HM.go]at e
end
end Go.X
