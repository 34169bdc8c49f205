import Derived.Below
import Derived.Laws.OwnMore
import Derived.Laws.IdiomCopy
import Derived.Laws.MakeOwn
import Derived.Orders
import Derived.KernelRfl
import Derived.LoopN
import Derived.Laws.Strings
import Derived.Lib.ConvBytes
import Derived.Laws.NewFold
set_option linter.unusedVariables false
set_option linter.unusedSimpArgs false
namespace Go.X
abbrev az:=Value
abbrev bh:=World
abbrev cq:=Program
abbrev bm:=TypeId
theorem ak {α:Sort _} (a b:α):(bif true then a else b)=a:=rfl
theorem ax {α:Sort _} (a b:α):(bif false then a else b)=b:=rfl
theorem bM (b:Bool):(b&&b)=b:=Bool.and_self b
theorem bE (n:Nat):Int.toNat (n:Int)=n:=rfl
theorem bH {α:Type _} (a b:α):(some a=some b)=(a=b):=Option.some.injEq a b
theorem cV {α:Type _} {β:Type _} (a:α) (b:β) (c:α) (I:β):((a,b)=(c,I))=(a=c∧b=I):=Prod.mk.injEq a b c I
theorem bN (a b:Bool):((a&&b)=true)=(a=true∧b=true):=Bool.and_eq_true a b
theorem dJ {p:Prop} [Decidable p]:(decide p=true)=p:=decide_eq_true_eq
theorem cP:(!true)=false:=rfl
theorem cK:(!false)=true:=rfl
theorem dz {α:Type _} {l:List α} {n:Nat} (h:n<l.length):l[n]∈l:=List.getElem_mem h
theorem eM {α:Type _} {l:List α}:l.take l.length=l:=List.take_length
theorem eG {α:Type _} {i:Nat} {l:List α}:(l.take i).length=min i l.length:=List.length_take
theorem fr {α:Type _} {a b:List α}:(a++b).length=a.length+b.length:=List.length_append
theorem gh {α:Type _} {a:α} {l:List α}:a∈a::l:=List.mem_cons_self
theorem gO {α:Type _} (y:α) {a:α} {l:List α} (h:a∈l):a∈y::l:=List.mem_cons_of_mem y h
theorem hE {α:Type _} (p:α→Bool) (l:List α):(l.filter p).length<=l.length:=List.length_filter_le p l
theorem fJ {α:Type _} {a b:α}:a∈[b]↔a=b:=List.mem_singleton
theorem gn {α:Type _} {a:α} {l:List α}:(a::l).length=l.length+1:=rfl
theorem eV {α:Type _} {p:α→Bool} {a:α} {l:List α}:a∈l.filter p↔a∈l∧p a=true:=List.mem_filter
theorem dk {α:Type _} {a:α} {d t:List α}:a∈d++t↔a∈d∨a∈t:=List.mem_append
theorem eW {α:Type _} {a b:α} (h:some a=some b):a=b:=Option.some.inj h
theorem hg {α:Type _} {l:List α} {i:Nat} (h:i<l.length):l[i]? =some l[i]:=List.getElem?_eq_getElem h
theorem iC {α:Type _} {i:Nat} {a:α} {l:List α}:l[i]? =some a↔∃h,l[i]=a:=List.getElem?_eq_some_iff
theorem iX {α:Type _} {xs:Array α} {i:Nat} {I:α}:xs.getD i I=xs[i]?.getD I:=Array.getD_eq_getD_getElem?
theorem kT {α:Type _} {i:Nat} {b:α} {xs:Array α}:xs[i]? =some b↔∃h,xs[i]=b:=Array.getElem?_eq_some_iff
theorem h8 {α:Type _} {i:Nat} {l:List α} (h:l.length<=i):List.take i l=l:=List.take_of_length_le h
theorem fy {α:Type _} {p:α→Bool} {l:List α}:l.all p=true↔∀x,x∈l→p x=true:=List.all_eq_true
theorem h7 {α:Type _} {β:Type _} {b:β} {x:Option α} {f:α→β}:Option.map f x=some b↔∃a,x=some a∧f a=b:=Option.map_eq_some_iff
theorem jH {α:Type _} {l:List α} {i:Nat} {a:α}:l.getD i a=l[i]?.getD a:=List.getD_eq_getElem?_getD
theorem eO {α:Type _} {b:α} {l:List α} {a:α}:a∈b::l↔a=b∨a∈l:=List.mem_cons
theorem kU {α:Type _} {l:List α} (h:l.length=0):l=[]:=List.eq_nil_of_length_eq_zero h
theorem gV {n m:Nat} (h:n.ble m=true):n<=m:=Nat.le_of_ble_eq_true h
theorem gW {n m:Nat} (k:Nat) (h:n<=m):n*k<=m*k:=Nat.mul_le_mul_right k h
theorem eJ (b:Bool):((!b)=true)=(b=false):=Bool.not_eq_true' b
theorem iu {α:Type _} {xs:Array α}:xs.toList.length=xs.size:=Array.length_toList
theorem b7 (n:Nat):n<=n:=Nat.le_refl n
theorem lu {α:Type _} {i:Nat} {l:List α} (h:i<l.length):List.drop i l=l[i]::List.drop (i+1) l:=List.drop_eq_getElem_cons h
theorem cw (h:Decidable True):@decide True h=true:=decide_true h
inductive aB where
 |bool |int (k:IntKind)|str |opq |unit |list (t:aB)|pair (a b:aB)
 deriving DecidableEq
@[reducible] def aB.den:aB->Type
 | .bool=>Bool | .int _=>Int | .str=>List UInt8 | .opq=>Unit | .unit=>Unit
 | .list t=>List t.den | .pair a b=>a.den×b.den
def aB.size:aB->Nat
 | .unit=>0 | .pair a b=>a.size+b.size |_=>1
def aB.isAgg:aB->Bool
 | .unit=>true | .pair _ _=>true |_=>false
def aB.zero:(t:aB)->t.den
 | .bool=>false | .int _=>(0:Int)| .str=>[] | .opq=>()| .unit=>()| .list _=>[] | .pair a b=>(a.zero,b.zero)
structure eD where
 t:aB
 x:t.den
def aB.cast? (t ad:aB) (x:t.den):Option ad.den:=if h:t=ad then some (h▸x) else none
def aB.nth:aB->Nat->Option aB
 | .pair a _,0=>some a | .pair _ b,i+1=>b.nth i |_,_=>none
def aB.offs:aB->Nat->Nat
 | .pair _ _,0=>0 | .pair a b,i+1=>a.size+b.offs i |_,_=>0
def aB.proj:(t:aB)->t.den->Nat->Option eD
 | .pair a _,x,0=>some ⟨a,x.1⟩| .pair _ b,x,i+1=>b.proj x.2 i |_,_,_=>none
def eD.at_:eD->List Nat->Option eD
 |I,[]=>some I
 |I,i::p=>match I.t.proj I.x i with
  |some e=>e.at_ p
  |none=>none
def aB.at_:aB->List Nat->Option aB
 |t,[]=>some t
 |t,i::p=>match t.nth i with
  |some e=>e.at_ p
  |none=>none
def aB.offAt:aB->List Nat->Nat
 |_,[]=>0
 |t,i::p=>t.offs i+(match t.nth i with |some e=>e.offAt p |none=>0)
def aB.setAt:(t:aB)->t.den->List Nat->eD->Option t.den
 |t,_,[],v=>v.t.cast? t v.x
 | .pair a _,x,0::p,v=>(a.setAt x.1 p v).map λy=>(y,x.2)
 | .pair _ b,x,(i+1)::p,v=>(b.setAt x.2 (i::p) v).map λy=>(x.1,y)
 |_,_,_,_=>none
def aB.cmp:aB->Bool
 | .bool=>true | .int _=>true | .str=>true | .unit=>true | .pair a b=>a.cmp&&b.cmp |_=>false
def aB.eqb:(t:aB)->t.den->t.den->Bool
 | .bool,x,y=>x==y
 | .int _,x,y=>decide ((x:Int)=y)
 | .str,x,y=>decide ((x:List UInt8)=y)
 | .pair a b,x,y=>a.eqb x.1 y.1&&b.eqb x.2 y.2
 |_,_,_=>true
def aB.chain:aB->Bool
 | .unit=>true | .pair _ b=>b.chain |_=>false
def aB.parts:(t:aB)->t.den->List eD
 | .pair a b,x=>⟨a,x.1⟩::b.parts x.2
 |_,_=>[]
inductive DT (α:Type):Type 1 where
 |leaf (a:α)
 |fail
 |br (b:Bool) (x y:DT α)
 |opt {β:Type} (o:Option β) (k:β->DT α)
 |alt {β γ:Type} (o:Option (β⊕γ)) (k:β->DT α) (h:γ->DT α)
namespace DT
variable {α β:Type}
def val:DT α->Option α
 |leaf a=>some a
 |fail=>none
 |br b x y=>bif b then x.val else y.val
 |opt o k=>match o with |some r=>(k r).val |none=>none
 |alt o k h=>match o with |some (.inl r)=>(k r).val |some (.inr r)=>(h r).val |none=>none
def bind:DT α->(α->DT β)->DT β
 |leaf a,f=>f a
 |fail,_=>fail
 |br b x y,f=>br b (x.bind f) (y.bind f)
 |opt o k,f=>opt o λr=>(k r).bind f
 |alt o k h,f=>alt o (λr=>(k r).bind f) (λr=>(h r).bind f)
def map (f:α->β) (x:DT α):DT β:=x.bind λa=>leaf (f a)
def ofOpt (o:Option α):DT α:=match o with |some a=>leaf a |none=>fail
end DT
inductive K where
 |undef
 |dat (t:aB) (x:t.den)
 |clip (t:aB) (xs:List t.den)
 |nilv
 |nils (e:bm) (t:aB)
 |own (t:aB) (o:Nat)
 |view (t:aB) (o:Nat) (aM u:Nat)
 |ptr (o:Nat) (t:aB) (i:Nat) (path:List Nat)
 |fptr (t:aB) (x:t.den)
 |agg (l:List K)
 |tup (l:List K)
 |fn (f:FuncId) (first lD:List K)
 |iface (T:bm) (r:K)
 |nilI |nilF |nilP
 |atl (n:Nat)
 |lim (t:aB) (xs:List t.den) (c:Nat)
 |yld (Y:Nat) (o:Nat)
 |gp (b off:Nat) (l:List (Option Nat))
 |dfr (f:FuncId) (a b:List K) (t:aB) (xs:List t.den)
inductive aF where
 |hole
 |gone
 |arr (e:bm) (t:aB) (xs:List t.den) (fz:Bool)
 |box (T:bm) (t:aB) (r:K)
 |iter (d:List UInt8) (pos:Int)
 |loop (Y:Nat) (R:List (Nat×K)) (p:Int)
abbrev bO:=List (Nat×K)
structure bz where
 regs:bO
 heap:List aF
def bO.get:bO->Nat->Option K
 |[],_=>none
 |(e,d)::l,I=>bif Nat.beq I e then some d else bO.get l I
def bO.put:bO->Nat->K->bO
 |[],I,r=>[(I,r)]
 |(e,d)::l,I,r=>bif Nat.beq I e then (I,r)::l else bif Nat.blt I e then (I,r)::(e,d)::l else (e,d)::bO.put l I r
inductive HM (α:Type):Type 1 where
 |ret (a:α)
 |fail
 |br (b:Bool) (x y:HM α)
 |opt {β:Type} (o:Option β) (k:β->HM α)
 |alt {β γ:Type} (o:Option (β⊕γ)) (k:β->HM α) (h:γ->HM α)
 |rdc (o:Nat) (k:aF->HM α)
 |frz (o:Nat) (k:HM α)
 |rdw (o:Nat) (k:aF->HM α)
 |wr (o:Nat) (b:aF) (k:HM α)
 |nw (b:aF) (k:Nat->HM α)
 |nxt (k:Nat->HM α)
structure dj where
 rd:List Nat
 fz:List Nat
 wr:List Nat
def dj.none:dj:=⟨[],[],[]⟩
def aF.mask:aF->aF
 | .arr e t xs _=>.arr e t xs false
 |b=>b
def aF.freeze:aF->aF
 | .arr e t xs _=>.arr e t xs true
 |b=>b
def aE (h:List aF) (o:Nat):aF:=h.getD o .hole
def bY:List aF->Nat->aF->List aF
 |[],0,b=>[b]
 |[],_+1,_=>[]
 |_::l,0,b=>b::l
 |a::l,n+1,b=>a::bY l n b
namespace HM
variable {α β:Type}
def bind:HM α->(α->HM β)->HM β
 |ret a,f=>f a
 |fail,_=>fail
 |br b x y,f=>br b (x.bind f) (y.bind f)
 |opt o k,f=>opt o λr=>(k r).bind f
 |alt o k h,f=>alt o (λr=>(k r).bind f) (λr=>(h r).bind f)
 |rdc o k,f=>rdc o λb=>(k b).bind f
 |frz o k,f=>frz o (k.bind f)
 |rdw o k,f=>rdw o λb=>(k b).bind f
 |wr o b k,f=>wr o b (k.bind f)
 |nw b k,f=>nw b λi=>(k i).bind f
 |nxt k,f=>nxt λi=>(k i).bind f
def map (f:α->β) (x:HM α):HM β:=x.bind λa=>ret (f a)
def ofOpt (o:Option α):HM α:=match o with |some a=>ret a |none=>fail
def chk (b:Bool) (x:HM α):HM α:=br b x fail
def ofDT:DT α->HM α
 | .leaf a=>ret a
 | .fail=>fail
 | .br b x y=>br b (ofDT x) (ofDT y)
 | .opt o k=>opt o λr=>ofDT (k r)
 | .alt o k h=>alt o (λr=>ofDT (k r)) (λr=>ofDT (h r))
def run:HM α->List aF->Nat->dj->DT (α×List aF×Nat×dj)
 |ret a,h,n,p=>.leaf (a,h,n,p)
 |fail,_,_,_=>.fail
 |br b x y,h,n,p=>.br b (x.run h n p) (y.run h n p)
 |opt o k,h,n,p=>.opt o λr=>(k r).run h n p
 |alt o k l,h,n,p=>.alt o (λr=>(k r).run h n p) (λr=>(l r).run h n p)
 |rdc o k,h,n,p=>(k (aE h o).mask).run h n ⟨o::p.rd,p.fz,p.wr⟩
 |frz o k,h,n,p=>k.run (bY h o (aE h o).freeze) n ⟨p.rd,o::p.fz,p.wr⟩
 |rdw o k,h,n,p=>(k (aE h o)).run h n ⟨p.rd,p.fz,o::p.wr⟩
 |wr o b k,h,n,p=>k.run (bY h o b) n ⟨p.rd,p.fz,o::p.wr⟩
 |nw b k,h,n,p=>(k n).run (bY h n b) (n+1) ⟨p.rd,p.fz,n::p.wr⟩
 |nxt k,h,n,p=>(k n).run h n p
end HM
structure gj where
 ty:aB
 elem:bm:=0
 fields:List bm:=[]
 bytes:Nat:=8
 cmp:Bool:=false
 arr:Bool:=false
 nil:Bool:=false
 meths:List (String×Nat):=[]
structure cd where
 tab:List (Nat×gj)
 rawArg:FuncId->Nat->Bool
def cd.ti (cx:cd) (T:bm):Option gj:=go cx.tab
where
 go:List (Nat×gj)->Option gj
  |[]=>none
  |(U,i)::l=>bif Nat.beq T U then some i else go l
def acp {α:Type}:List (Option α)->Option (List α)
 |[]=>some []
 |o::l=>match o,acp l with
  |some a,some m=>some (a::m)
  |_,_=>none
def cd.zeroRV (cx:cd):Nat->bm->Option K
 |0,_=>none
 |n+1,T=>match cx.ti T with
  |none=>none
  |some i=>match i.fields with
   |[]=>match i.ty with
    | .list t=>some (.nils i.elem t)
    | .opq=>bif i.nil then some .nilI else bif i.arr then some .nilF else none
    |t=>some (.dat t t.zero)
   |f::ct=>match acp ((f::ct).map (cx.zeroRV n)) with
    |some l=>some (.agg l)
    |none=>none
def Gn:az->K
 | .bool b=>.dat .bool b
 | .int k n=>.dat (.int k) n
 | .string d=>.dat .str d.data.toList
 | .slice none 0 0=>.nilv
 | .pointer none=>.nilP
 | .nilFunc=>.nilF
 | .nilIface=>.nilI
 |_=>.undef
def cd.typ (cx:cd) (T:bm) (r:K):K:=match r with
 | .nilv=>match cx.ti T with
  |some i=>match i.ty with
   | .list t=>.nils i.elem t
   |_=>.undef
  |none=>.undef
 |r=>r
mutual
def hc:K->HM eD
 | .dat t x=>.ret ⟨t,x⟩
 | .clip t xs=>.ret ⟨.list t,xs⟩
 | .lim t xs _=>.ret ⟨.list t,xs⟩
 | .nils _ t=>.ret ⟨.list t,[]⟩
 | .own t o=>.frz o (.rdc o λb=>match b with
  | .arr _ ad xs _=>match ad.list.cast? t.list xs with
   |some aW=>.ret ⟨.list t,aW⟩
   |none=>.fail
  |_=>.fail)
 | .view t o aM u=>.frz o (.rdc o λb=>match b with
  | .arr _ ad xs _=>match ad.list.cast? t.list xs with
   |some aW=>.ret ⟨.list t,(List.take u aW).drop aM⟩
   |none=>.fail
  |_=>.fail)
 | .agg l=>uQ l
 |_=>.fail
def uQ:List K->HM eD
 |[]=>.ret ⟨.unit,()⟩
 |r::l=>(hc r).bind λI=>(uQ l).bind λe=>.ret ⟨.pair I.t e.t,(I.x,e.x)⟩
end
def xt (t:aB) (r:K):HM t.den:=(hc r).bind λI=>HM.ofOpt (I.t.cast? t I.x)
mutual
def K.fits:K->aB->Bool
 | .dat ad _,t=>decide (ad=t)
 | .nils _ ad,t=>decide (aB.list ad=t)
 | .own ad _,t=>decide (aB.list ad=t)
 | .agg l,t=>K.fitsL l t
 | .ptr ..,t=>decide (t=.opq)
 | .fptr ..,t=>decide (t=.opq)
 | .fn ..,t=>decide (t=.opq)
 | .yld ..,t=>decide (t=.opq)
 | .iface ..,t=>decide (t=.opq)
 | .nilI,t=>decide (t=.opq)
 | .nilF,t=>decide (t=.opq)
 | .nilP,t=>decide (t=.opq)
 |_,_=>false
def K.fitsL:List K->aB->Bool
 |[],t=>decide (t=.unit)
 |r::l,t=>match t with
  | .pair a b=>r.fits a&&K.fitsL l b
  |_=>false
end
def K.comp:K->Nat->Option K
 | .agg l,i=>l[i]?
 | .dat t x,i=>(t.proj x i).map λI=>.dat I.t I.x
 |_,_=>none
def K.atPath:K->List Nat->Option K
 |r,[]=>some r
 |r,i::p=>match r.comp i with
  |some d=>d.atPath p
  |none=>none
def K.open_:K->Option (List K)
 | .agg l=>some l
 | .dat t x=>bif t.chain then some ((t.parts x).map λI=>.dat I.t I.x) else none
 |_=>none
def K.setPath:List Nat->K->K->Option K
 |[],_,v=>some v
 |i::p,r,v=>match r.open_ with
  |some l=>match l[i]? with
   |some d=>match K.setPath p d v with
    |some hD=>some (.agg (l.set i hD))
    |none=>none
   |none=>none
  |none=>none
def j7 (l:List UInt8):List Int:=l.map λb=>(b.toNat:Int)
def tZ (l:List Int):List UInt8:=l.map λn=>UInt8.ofNat n.toNat
def bp:Nat:=140737488355328
def oc (r:K):HM eD:=match r with
 | .own t o=>.rdc o λb=>match b with
  | .arr _ ad xs _=>.ret ⟨.list ad,xs⟩
  |_=>.fail
 | .view t o aM u=>.rdc o λb=>match b with
  | .arr _ ad xs _=>bif decide (ad=t) then .ret ⟨.list ad,(xs.take u).drop aM⟩ else .fail
  |_=>.fail
 | .dat .str d=>.ret ⟨.list (.int .u8),j7 d⟩
 |r=>hc r
def O3 (cx:cd) (T:bm):Bool:=match cx.ti T with
 |some j=>decide (j.ty=.str)
 |none=>false
def lenOf (r:K):HM Nat:=match r with
 | .dat (.list _) xs=>.ret xs.length
 | .dat .str xs=>.ret xs.length
 | .clip _ xs=>.ret xs.length
 | .nils _ _=>.ret 0
 | .own t o=>.rdc o λb=>match b with
  | .arr _ _ xs _=>.ret xs.length
  |_=>.fail
 | .view _ _ aM u=>.ret (u-aM)
 |_=>.fail
def A2 (op:BinOp) (k:IntKind) (a b:Int):HM K:=
 match op with
 | .add=>.ret (.dat (.int k) (k.wrap (a+b)))
 | .sub=>.ret (.dat (.int k) (k.wrap (a-b)))
 | .mul=>.ret (.dat (.int k) (k.wrap (a*b)))
 | .quo=>.br (decide (b=0)) .fail (.ret (.dat (.int k) (k.wrap (a.tdiv b))))
 | .rem=>.br (decide (b=0)) .fail (.ret (.dat (.int k) (a.tmod b)))
 | .and=>.ret (.dat (.int k) (k.wrap (BitVec.ofInt k.bits a &&& BitVec.ofInt k.bits b).toNat))
 | .or=>.ret (.dat (.int k) (k.wrap (BitVec.ofInt k.bits a ||| BitVec.ofInt k.bits b).toNat))
 | .xor=>.ret (.dat (.int k) (k.wrap (BitVec.ofInt k.bits a ^^^ BitVec.ofInt k.bits b).toNat))
 | .andNot=>.ret (.dat (.int k) (k.wrap (BitVec.ofInt k.bits a &&& ~~~(BitVec.ofInt k.bits b)).toNat))
 | .eql=>.ret (.dat .bool (decide (a=b)))
 | .neq=>.ret (.dat .bool (!decide (a=b)))
 | .lss=>.ret (.dat .bool (decide (a<b)))
 | .leq=>.ret (.dat .bool (decide (a<=b)))
 | .gtr=>.ret (.dat .bool (decide (a>b)))
 | .geq=>.ret (.dat .bool (decide (a>=b)))
 |_=>.fail
def GA (op:BinOp) (k:IntKind) (a b:Int):HM K:=
 match op with
 | .shl=>.br (decide (b<0)) .fail (.ret (.dat (.int k) (k.wrap (a*2^(min b.toNat k.bits)))))
 | .shr=>.br (decide (b<0)) .fail (.ret (.dat (.int k) (a.fdiv (2^(min b.toNat k.bits)))))
 |_=>.fail
def Pc (op:BinOp) (x y:List UInt8):HM K:=
 match op with
 | .add=>.chk (decide (x.length+y.length<=bp)) (.ret (.dat .str (x++y)))
 | .eql=>.ret (.dat .bool (decide (x=y)))
 | .neq=>.ret (.dat .bool (!decide (x=y)))
 | .lss=>.ret (.dat .bool (Op.bytesLess x y))
 | .leq=>.ret (.dat .bool (Op.bytesLess x y||decide (x=y)))
 | .gtr=>.ret (.dat .bool (!(Op.bytesLess x y||decide (x=y))))
 | .geq=>.ret (.dat .bool (!(Op.bytesLess x y)))
 |_=>.fail
def cd.isTy (cx:cd) (T:bm) (t:aB):Bool:=match cx.ti T with
 |some i=>decide (i.ty=t)
 |none=>false
def cd.isTyO (cx:cd) (T:bm) (t:Option aB):Bool:=match t with
 |some t=>cx.isTy T t
 |none=>false
def O8 (cx:cd) (op:BinOp) (T:bm) (x y:K):HM K:=
 match x,y with
 | .dat (.int k) a,.dat (.int cj) b=>match op with
  | .shl=>GA op k a b
  | .shr=>GA op k a b
  |_=>bif decide (k=cj) then A2 op k a b else .fail
 | .dat .str a,.dat .str b=>Pc op a b
 | .dat (.int k) a,.atl m=>match op with
  | .gtr=>bif decide (k=.i64) then .chk (decide (a<=(m:Int))) (.ret (.dat .bool false)) else .fail
  |_=>.fail
 | .dat .bool a,.dat .bool b=>bif cx.isTy T .bool then match op with
  | .eql=>.ret (.dat .bool (a==b))
  | .neq=>.ret (.dat .bool (!(a==b)))
  |_=>.fail
  else .fail
 |x,y=>match cx.ti T with
  |some i=>bif i.cmp&&i.ty.cmp&&i.ty.isAgg then (xt i.ty x).bind λa=>(xt i.ty y).bind λb=>match op with
    | .eql=>.ret (.dat .bool (i.ty.eqb a b))
    | .neq=>.ret (.dat .bool (!(i.ty.eqb a b)))
    |_=>.fail
   else .fail
  |none=>.fail
def Pm (cx:cd) (op:BinOp) (T:bm) (x:K):HM K:=match cx.ti T with
 |some i=>bif i.nil then (match x,op with
  | .iface _ _,.eql=>.ret (.dat .bool false)
  | .iface _ _,.neq=>.ret (.dat .bool true)
  | .nilI,.eql=>.ret (.dat .bool true)
  | .nilI,.neq=>.ret (.dat .bool false)
  |_,_=>.fail) else .fail
 |none=>.fail
def vK:List (String×Nat)->String->Option Nat
 |[],_=>none
 |(n,f)::l,nm=>bif n==nm then some f else vK l nm
def KP (op:UnOp) (x:K):HM K:=match op,x with
 | .neg,.dat (.int k) a=>.ret (.dat (.int k) (k.wrap (0-a)))
 | .not,.dat .bool a=>.ret (.dat .bool (!a))
 | .xor,.dat (.int k) a=>.ret (.dat (.int k) (k.wrap (BitVec.ofInt k.bits (if k.signed then-1 else k.max) ^^^ BitVec.ofInt k.bits a).toNat))
 |_,_=>.fail
def K.isStr:K->Bool
 | .dat .str _=>true |_=>false
def OV (cx:cd) (S T:bm) (x:K):HM K:=match cx.ti S,cx.ti T with
 |some i,some j=>match i.ty,j.ty with
  | .int _,.int k=>match x with
   | .dat (.int _) a=>.ret (.dat (.int k) (k.wrap a))
   |_=>.fail
  | .str,.str=>match x with
   | .dat .str a=>.ret (.dat .str a)
   |_=>.fail
  | .str,.list (.int .u8)=>match x with
   | .dat .str a=>.chk (decide (a.length<=bp)) (.nw (.arr j.elem (.int .u8) (j7 a) false) λo=>.ret (.own (.int .u8) o))
   |_=>.fail
  | .list (.int .u8),.str=>bif x.isStr then .fail else (oc x).bind λI=>(HM.ofOpt (I.t.cast? (.list (.int .u8)) I.x)).bind λl=>.ret (.dat .str (tZ l))
  |_,_=>.fail
 |_,_=>.fail
def uP:K->Option Int
 | .dat (.int _) a=>some a
 |_=>none
def mo:K->Option Bool
 | .dat .bool a=>some a
 |_=>none
def xp:Option K->Option (Option Int)
 |none=>some none
 |some r=>(uP r).map some
def Oa (cx:cd) (T:bm) (x:K) (aM u fM:Option Int):HM K:=
 match x with
 | .dat .str d=>match fM with
  |some _=>.fail
  |none=>bif cx.isTy T .str then
   .chk (decide (0<=aM.getD 0)&&decide (aM.getD 0<=u.getD (d.length:Int))&&decide (u.getD (d.length:Int)<=(d.length:Int))) (.ret (.dat .str ((d.take (u.getD (d.length:Int)).toNat).drop (aM.getD 0).toNat)))
   else .fail
 | .own t o=>match fM with
  |some m=>match u with
   |none=>.fail
   |some h=>bif cx.isTy T (.list t) then .rdc o λb=>match b with
    | .arr _ ad xs _=>bif decide (ad=t) then
     .chk (decide (0<=aM.getD 0)&&decide (aM.getD 0<=h)&&decide (h<=m)&&decide (m<=(xs.length:Int))) (.ret .undef)
     else .fail
    |_=>.fail
    else .fail
  |none=>bif cx.isTy T (.list t) then .rdc o λb=>match b with
   | .arr _ ad xs _=>bif decide (ad=t) then
    .chk (decide (0<=aM.getD 0)&&decide (aM.getD 0<=u.getD (xs.length:Int))&&decide (u.getD (xs.length:Int)<=(xs.length:Int))) (.ret (.view t o (aM.getD 0).toNat (u.getD (xs.length:Int)).toNat))
    else .fail
   |_=>.fail
   else .fail
 | .view t o a z=>match fM with
  |some _=>.fail
  |none=>bif cx.isTy T (.list t) then .rdc o λb=>match b with
   | .arr _ ad xs _=>bif decide (ad=t) then
    .chk (decide (0<=aM.getD 0)&&decide (aM.getD 0<=u.getD ((z-a:Nat):Int))&&decide (u.getD ((z-a:Nat):Int)<=((xs.length-a:Nat):Int))) (.ret (.view t o (a+(aM.getD 0).toNat) (a+(u.getD ((z-a:Nat):Int)).toNat)))
    else .fail
   |_=>.fail
   else .fail
 | .nils e t=>match fM with
  |some _=>.fail
  |none=>bif cx.isTy T (.list t) then .chk (decide (aM.getD 0=0)&&decide (u.getD 0=0)) (.ret (.nils e t)) else .fail
 |x=>(hc x).bind λI=>match I with
  |⟨.list t,xs⟩=>bif cx.isTy T (.list t) then
   match fM with
   |none=>.chk (decide (0<=aM.getD 0)&&decide (aM.getD 0<=u.getD (xs.length:Int))&&decide (u.getD (xs.length:Int)<=(xs.length:Int))) (.ret (.dat (.list t) ((xs.take (u.getD (xs.length:Int)).toNat).drop (aM.getD 0).toNat)))
   |some m=>match u with
    |some h=>.chk (decide (0<=aM.getD 0)&&decide (aM.getD 0<=h)&&decide (h<=(xs.length:Int))&&decide (h=m)) (.ret (.clip t ((xs.take h.toNat).drop (aM.getD 0).toNat)))
    |none=>.fail
   else .fail
  |_=>.fail
def OC (cx:cd) (T:bm) (x:K) (aM u fM:Option Int):HM K:=
 match x,aM,u,fM with
 | .clip t xs,none,some h,none=>bif cx.isTy T (.list t) then .chk (decide (0<=h)&&decide (h<=(xs.length:Int))) (.ret (.lim t (xs.take h.toNat) xs.length)) else .fail
 |x,aM,u,fM=>Oa cx T x aM u fM
def uU {α:Type} (k:Nat) (f:Nat->HM α):Nat->HM α
 |0=>.fail
 |n+1=>.br (Nat.beq k n) (f n) (uU k f n)
def MB (cx:cd) (T:bm) (x:K) (i:Int):HM K:=
 match x with
 | .own t o=>bif cx.isTy T (.list t) then .rdc o λb=>match b with
  | .arr _ ad xs _=>bif decide (ad=t) then .chk (decide (0<=i)&&decide (i<(xs.length:Int))) (.ret (.ptr o t i.toNat [])) else .fail
  |_=>.fail
  else .fail
 | .view t o aM u=>bif cx.isTy T (.list t) then .chk (decide (0<=i)&&decide (i<((u-aM:Nat):Int))) (.ret (.ptr o t (aM+i.toNat) [])) else .fail
 | .ptr o t j p=>bif cx.isTyO T (t.at_ p) then match cx.ti T with
  |some ti=>bif ti.arr&&ti.ty.isAgg then .chk (decide (0<=i)&&decide (i<(ti.fields.length:Int))) (uU i.toNat (λk=>.ret (.ptr o t j (p++[k]))) ti.fields.length) else .fail
  |none=>.fail
  else .fail
 | .fptr t v=>bif cx.isTy T t then match cx.ti T with
  |some ti=>bif ti.arr&&ti.ty.isAgg then .chk (decide (0<=i)&&decide (i<(ti.fields.length:Int))) (uU i.toNat (λk=>(HM.ofOpt (t.proj v k)).bind λI=>.ret (.fptr I.t I.x)) ti.fields.length) else .fail
  |none=>.fail
  else .fail
 | .gp b off l=>match cx.ti T with
  |some ti=>bif ti.arr&&ti.ty.isAgg then .chk (decide (0<=i)&&decide (i<(ti.fields.length:Int))) (uU i.toNat (λk=>.ret (.gp b (off+ti.ty.offs k) (l.drop (ti.ty.offs k)))) ti.fields.length) else .fail
  |none=>.fail
 | .dat (.list t) xs=>bif cx.isTy T (.list t) then .chk (decide (0<=i)&&decide (i<(xs.length:Int))) (.ret (.fptr t (xs.getD i.toNat t.zero))) else .fail
 | .clip t xs=>bif cx.isTy T (.list t) then .chk (decide (0<=i)&&decide (i<(xs.length:Int))) (.ret (.fptr t (xs.getD i.toNat t.zero))) else .fail
 |_=>.fail
def Oo (cx:cd) (T:bm) (x:K) (i:Int):HM K:=match x with
 | .dat .str d=>bif cx.isTy T .str then .chk (decide (0<=i)&&decide (i<(d.length:Int))) (.ret (.dat (.int .u8) ((d.getD i.toNat 0).toNat:Int))) else .fail
 |_=>.fail
def Mz (cx:cd) (T:bm) (x:K) (f:Nat):HM K:=match cx.ti T with
 |some ti=>bif !ti.arr&&ti.ty.isAgg&&Nat.blt f ti.fields.length then match x with
  | .ptr o t j p=>bif cx.isTyO T (t.at_ p) then .ret (.ptr o t j (p++[f])) else .fail
  | .fptr t v=>bif cx.isTy T t then (HM.ofOpt (t.proj v f)).bind λI=>.ret (.fptr I.t I.x) else .fail
  |_=>.fail
  else .fail
 |none=>.fail
def Ol (cx:cd) (T:bm) (x:K) (f:Nat):HM K:=match cx.ti T with
 |some i=>bif !i.arr&&i.ty.isAgg&&Nat.blt f i.fields.length&&x.fits i.ty then HM.ofOpt (x.comp f) else .fail
 |none=>.fail
def adq:Option Nat->K
 |some f=>.fn f [] [] |none=>.nilF
def AY (cx:cd) (T:bm) (a:K):HM K:=match a with
 | .gp _ _ l=>bif cx.isTy T .opq then (HM.ofOpt l.head?).bind λx=>.ret (adq x) else .fail
 | .fptr t v=>bif cx.isTy T t then .ret (.dat t v) else .fail
 | .ptr o d i p=>bif cx.isTyO T (d.at_ p) then .rdc o λb=>match b with
  | .arr _ t xs _=>bif decide (d=t) then (HM.ofOpt (eD.at_ ⟨t,xs.getD i t.zero⟩ p)).bind λI=>.ret (.dat I.t I.x) else .fail
  | .box _ t r=>bif decide (d=t) then HM.ofOpt (r.atPath p) else .fail
  |_=>.fail
  else .fail
 |_=>.fail
def Bb (v:K):HM K:=match v with
 | .view ..=>(hc v).bind λI=>.ret (.dat I.t I.x)
 | .clip t xs=>.ret (.dat (.list t) xs)
 |v=>.ret v
def OE (cx:cd) (T:bm) (a v:K):HM K:=match a with
 | .ptr o d i p=>bif cx.isTyO T (d.at_ p) then .rdc o λb=>match b with
  | .arr _ _ _ _=>(hc v).bind λI=>.rdw o λb=>match b with
   | .arr e t xs fz=>bif decide (d=t)&& !fz&&cx.isTy T I.t then
     (HM.ofOpt (t.setAt (xs.getD i t.zero) p I)).bind λy=>.wr o (.arr e t (xs.set i y) false) (.ret .undef)
    else .fail
   |_=>.fail
  | .box _ _ _=>(Bb v).bind λv=>.rdw o λb=>match b with
   | .box U t r=>bif decide (d=t) then match t.at_ p with
    |some ad=>bif v.fits ad then (HM.ofOpt (r.setPath p v)).bind λgN=>.wr o (.box U t gN) (.ret .undef) else .fail
    |none=>.fail
    else .fail
   |_=>.fail
  |_=>.fail
  else .fail
 |_=>.fail
def A3 (cx:cd) (T:bm) (v:K):HM K:=match cx.ti T with
 |some i=>(Bb (cx.typ T v)).bind λv=>bif v.fits i.ty then .nw (.box T i.ty v) λo=>.ret (.ptr o i.ty 0 []) else .fail
 |none=>.fail
def Of (cx:cd) (T:bm):HM K:=match cx.zeroRV 20 T with
 |some v=>A3 cx T v
 |none=>.fail
def AG (cx:cd) (T:bm) (parts:List (Nat×K)):HM K:=match cx.ti T,cx.zeroRV 20 T with
 |some i,some (.agg l)=>go i l parts
 |_,_=>.fail
where
 go (i:gj):List K->List (Nat×K)->HM K
  |l,[]=>.ret (.agg l)
  |l,(j,v)::r=>match i.fields[j]?,i.ty.nth j with
   |some U,some ad=>(Bb (cx.typ U v)).bind λv=>bif v.fits ad then go i (l.set j v) r else .fail
   |_,_=>.fail
def DD (cx:cd) (T:bm) (len:Nat) (parts:List (Nat×K)):HM K:=match cx.ti T with
 |some i=>match i.ty with
  | .list t=>bif Nat.ble (len*t.size) 100000 then (go t (List.replicate len t.zero) parts).bind λxs=>.nw (.arr i.elem t xs false) λo=>.ret (.own t o) else .fail
  |_=>.fail
 |none=>.fail
where
 go (t:aB):List t.den->List (Nat×K)->HM (List t.den)
  |xs,[]=>.ret xs
  |xs,(j,v)::r=>match xs[j]? with
   |some _=>(xt t v).bind λy=>go t (xs.set j y) r
   |none=>.fail
def MD (cx:cd) (T:bm) (n c:Int):HM K:=match cx.ti T with
 |some i=>match i.ty with
  | .list t=>.chk (decide (0<=n)&&decide (n<=c)&&decide (c*i.bytes<=(bp:Int))) (.nw (.arr i.elem t (List.replicate n.toNat t.zero) false) λo=>.ret (.own t o))
  |_=>.fail
 |none=>.fail
def qN (cx:cd) (T:bm):Bool:=match cx.ti T with
 |some j=>match j.ty with
  | .list _=>true
  | .str=>true
  |_=>false
 |none=>false
def Ux (x:K) (o:Nat):Bool:=match x with
 | .view _ dQ _ _=>Nat.beq dQ o
 |_=>false
def Og (cx:cd) (T dS:bm) (d x:K):HM K:=match d,x with
 | .nils _ _,.dat (.int k) n=>bif cx.isTy dS (.int k) then match cx.ti T with
  |some i=>match i.ty with
   | .list t=>.chk (decide (0<n)&&decide (n*i.bytes<=(bp:Int))) (.nw (.arr i.elem t (List.replicate n.toNat t.zero) false) λo=>.ret (.own t o))
   |_=>.fail
  |none=>.fail
  else .fail
 |_,_=>.fail
def OO (cx:cd) (T dS:bm) (d x:K):HM K:=match d,x with
 | .lim ad xs c,.dat (.int k) n=>bif cx.isTy dS (.int k) then match cx.ti T with
  |some i=>match i.ty with
   | .list t=>(HM.ofOpt (ad.list.cast? t.list xs)).bind λxs=>.chk (decide (0<n)&&decide ((c:Int)<xs.length+n)&&decide ((xs.length+n)*i.bytes<=(bp:Int))) (.nw (.arr i.elem t (xs++List.replicate n.toNat t.zero) false) λo=>.ret (.own t o))
   |_=>.fail
  |none=>.fail
  else .fail
 |d,x=>Og cx T dS d x
def NY (cx:cd) (T dS:bm) (d x:K):HM K:=bif qN cx dS then match cx.ti T with
 |some i=>match i.ty with
  | .list t=>(oc x).bind λI=>(HM.ofOpt (I.t.cast? (.list t) I.x)).bind λaW=>match d with
   | .nils _ _=>.chk (decide (aW.length*i.bytes<=bp)) (.nw (.arr i.elem t aW false) λo=>.ret (.own t o))
   | .own _ o=>.rdw o λb=>match b with
    | .arr e ad xs fz=>(HM.ofOpt (ad.list.cast? t.list xs)).bind λxs=>bif Nat.beq e i.elem then
      .chk (decide ((xs.length+aW.length)*i.bytes<=bp)) (.wr o .gone (.nw (.arr e t (xs++aW) fz) λo=>.ret (.own t o)))
     else .fail
    |_=>.fail
   | .view _ o 0 u=>bif Ux x o then .rdw o λb=>match b with
    | .arr e ad xs fz=>(HM.ofOpt (ad.list.cast? t.list xs)).bind λxs=>bif Nat.beq e i.elem&& !fz then
      .chk (decide (u+aW.length<=xs.length)) (.wr o (.arr e t (xs.take u++aW++xs.drop (u+aW.length)) false) (.ret (.view t o 0 (u+aW.length))))
     else .fail
    |_=>.fail
    else .rdw o λb=>match b with
    | .arr e ad xs fz=>(HM.ofOpt (ad.list.cast? t.list xs)).bind λxs=>bif Nat.beq e i.elem&& !fz then
      .chk (decide (((xs.take u).length+aW.length)*i.bytes<=bp)) (.wr o .gone (.nw (.arr e t (xs.take u++aW) false) λo=>.ret (.own t o)))
     else .fail
    |_=>.fail
   | .clip ad xs=>(HM.ofOpt (ad.list.cast? t.list xs)).bind λxs=>
      .chk (decide (0<aW.length)&&decide ((xs.length+aW.length)*i.bytes<=bp)) (.nw (.arr i.elem t (xs++aW) false) λo=>.ret (.own t o))
   |_=>.fail
  |_=>.fail
 |none=>.fail
 else OO cx T dS d x
def xe (fM:Bool):K->List K->HM K
 |x,[]=>.ret x
 | .dat (.int k) a,.dat (.int cj) b::l=>bif decide (k=cj) then xe fM (.dat (.int k) (if (if fM then a<b else b<a) then b else a)) l else .fail
 | .dat .str a,.dat .str b::l=>
  xe fM (.dat .str (bif (bif fM then !(Op.bytesLess a b) else (Op.bytesLess a b||decide (a=b))) then a else b)) l
 |_,_=>.fail
def OW (cx:cd) (T:bm) (I d:K):HM K:=match I with
 | .own t o=>bif cx.isTy T (.list t) then (oc d).bind λe=>.rdw o λb=>match b with
  | .arr f ad xs fz=>(HM.ofOpt (e.t.cast? (.list ad) e.x)).bind λaW=>bif decide (ad=t)&& !fz then
    .wr o (.arr f ad (xs.take 0++aW.take xs.length++xs.drop (0+(aW.take xs.length).length)) false) (.ret (.dat (.int .i64) ((aW.take xs.length).length:Int))) else .fail
  |_=>.fail
  else .fail
 | .view t o aM u=>bif cx.isTy T (.list t) then (oc d).bind λe=>.rdw o λb=>match b with
  | .arr f ad xs fz=>(HM.ofOpt (e.t.cast? (.list ad) e.x)).bind λaW=>bif decide (ad=t)&& !fz then
    .wr o (.arr f ad (xs.take aM++aW.take (u-aM)++xs.drop (aM+(aW.take (u-aM)).length)) false) (.ret (.dat (.int .i64) ((aW.take (u-aM)).length:Int))) else .fail
  |_=>.fail
  else .fail
 |_=>.fail
def Ow (cx:cd) (T:bm) (I:K):HM K:=match I with
 | .own t o=>bif cx.isTy T (.list t) then .rdw o λb=>match b with
  | .arr e ad xs fz=>bif decide (ad=t)&& !fz then .wr o (.arr e ad (xs.take 0++List.replicate xs.length ad.zero++xs.drop (0+xs.length)) false) (.ret (.tup [])) else .fail
  |_=>.fail
  else .fail
 | .view t o aM u=>bif cx.isTy T (.list t) then .rdw o λb=>match b with
  | .arr e ad xs fz=>bif decide (ad=t)&& !fz then .wr o (.arr e ad (xs.take aM++List.replicate (u-aM) ad.zero++xs.drop (aM+(u-aM))) false) (.ret (.tup [])) else .fail
  |_=>.fail
  else .fail
 | .nils _ _=>.ret (.tup [])
 |_=>.fail
def oS (d:List UInt8) (pos:Int):Int×Int:=(((Utf8.decode ⟨⟨d⟩⟩ pos.toNat).1:Int),((Utf8.decode ⟨⟨d⟩⟩ pos.toNat).2:Int))
def OH (cx:cd) (T:bm) (x:K):HM K:=match x with
 | .dat .str d=>bif cx.isTy T .str then .nw (.iter d 0) λo=>.ret (.ptr o .unit 0 []) else .fail
 |_=>.fail
def OR (x:K):HM K:=match x with
 | .ptr o .unit 0 []=>.rdw o λb=>match b with
  | .iter d pos=>.br (decide (pos<(d.length:Int))) (.wr o (.iter d (pos+(oS d pos).2)) (.ret (.tup [.dat .bool true,.dat (.int .i64) pos,.dat (.int .i32) (oS d pos).1]))) (.ret (.tup [.dat .bool false]))
  |_=>.fail
 |_=>.fail
def O9 (cx:cd) (T:bm) (x:K):HM K:=match x with
 | .nils _ t=>bif cx.isTy T (.list t) then .ret (.dat (.int .i64) (0:Int)) else .fail
 | .clip t xs=>bif cx.isTy T (.list t) then .ret (.dat (.int .i64) (xs.length:Int)) else .fail
 | .own t o=>bif cx.isTy T (.list t) then .rdc o λb=>match b with
  | .arr _ ad xs _=>.ret (.atl xs.length)
  |_=>.fail
  else .fail
 | .view t o aM u=>bif cx.isTy T (.list t) then .rdc o λb=>match b with
  | .arr _ ad xs _=>.ret (.atl (xs.length-aM))
  |_=>.fail
  else .fail
 |_=>.fail
def Nz (cx:cd) (b:Builtin) (hq:List bm) (args:List K):HM K:=
 match b,hq,args with
 | .len,[T],[x]=>bif qN cx T&&(O3 cx T==x.isStr) then (lenOf x).bind λn=>.ret (.dat (.int .i64) (n:Int)) else .fail
 | .append,[T,dS],[d,x]=>NY cx T dS d x
 | .min,_,x::l=>xe false x l
 | .max,_,x::l=>xe true x l
 | .clear,[T],[x]=>bif qN cx T then Ow cx T x else .fail
 | .copy,[T,dS],[I,d]=>bif qN cx dS then OW cx T I d else .fail
 | .cap,[T],[x]=>O9 cx T x
 |_,_,_=>.fail
mutual
def K.ids:K->List Nat
 | .own _ o=>[o] | .view _ o _ _=>[o] | .ptr o _ _ _=>[o] | .yld _ o=>[o]
 | .agg l=>K.idsL l | .tup l=>K.idsL l | .fn _ a b=>K.idsL a++K.idsL b | .iface _ r=>r.ids | .dfr _ a b _ _=>K.idsL a++K.idsL b
 |_=>[]
def K.idsL:List K->List Nat
 |[]=>[] |r::l=>r.ids++K.idsL l
end
mutual
def K.ren (ρ:Nat->Nat):K->K
 | .own t o=>.own t (ρ o)| .view t o a b=>.view t (ρ o) a b | .ptr o t i p=>.ptr (ρ o) t i p | .yld Y o=>.yld Y (ρ o)
 | .agg l=>.agg (K.renL ρ l)| .tup l=>.tup (K.renL ρ l)| .fn f a b=>.fn f (K.renL ρ a) (K.renL ρ b)| .iface T r=>.iface T (r.ren ρ)| .dfr f a b t xs=>.dfr f (K.renL ρ a) (K.renL ρ b) t xs
 |r=>r
def K.renL (ρ:Nat->Nat):List K->List K
 |[]=>[] |r::l=>r.ren ρ::K.renL ρ l
end
def bO.ids:bO->List Nat
 |[]=>[] |(_,r)::l=>r.ids++bO.ids l
def bO.ren (ρ:Nat->Nat):bO->bO
 |[]=>[] |(I,r)::l=>(I,r.ren ρ)::bO.ren ρ l
def aF.ids:aF->List Nat
 | .box _ _ r=>r.ids | .loop _ R _=>bO.ids R |_=>[]
def aF.ren (ρ:Nat->Nat):aF->aF
 | .box T t r=>.box T t (r.ren ρ)| .loop Y R p=>.loop Y (bO.ren ρ R) p |b=>b
def idx (l:List Nat) (o:Nat):Nat:=go l 0
where
 go:List Nat->Nat->Nat
  |[],n=>n
  |a::l,n=>bif Nat.beq a o then n else go l (n+1)
def has (l:List Nat) (o:Nat):Bool:=match l with
 |[]=>false
 |a::l=>Nat.beq a o||has l o
def ll:Nat->List Nat->List Nat->List aF->HM (List Nat×List aF)
 |0,_,_,_=>.fail
 |_+1,[],done,obs=>.ret (done,obs)
 |n+1,o::todo,done,obs=>bif has done o then ll n todo done obs
  else .rdw o λb=>ll n (todo++b.ids) (done++[o]) (obs++[b])
abbrev hG:=FuncId->List K->List aF->DT (K×List aF)
def GF (r:K):HM K:=match r with
 | .agg l=>(uQ l).bind λI=>.ret (.dat I.t I.x)
 | .own t o=>(hc (.own t o)).bind λI=>.ret (.dat I.t I.x)
 | .view t o a b=>(hc (.view t o a b)).bind λI=>.ret (.dat I.t I.x)
 | .nils _ t=>.ret (.dat (.list t) [])
 | .clip t xs=>.ret (.dat (.list t) xs)
 |r=>.ret r
def AP (cx:cd) (f:FuncId):Nat->List K->HM (List K)
 |_,[]=>.ret []
 |j,r::l=>(bif cx.rawArg f j then .ret r else GF r).bind λgN=>(AP cx f (j+1) l).bind λfB=>.ret (gN::fB)
def rV (ρ:Nat->Nat):List Nat->List aF->HM Unit
 |[],[]=>.ret ()
 |[],b::l=>.nw (b.ren ρ) λ_=>rV ρ [] l
 |o::os,b::l=>.wr o (b.ren ρ) (rV ρ os l)
 |_::_,[]=>.fail
def rW (cx:cd) (Γ:hG) (f:FuncId) (args:List K):HM K:=
 (AP cx f 0 args).bind λargs=>(ll 200 (K.idsL args) [] []).bind λ(done,obs)=>
  (HM.ofDT (Γ f (K.renL (idx done) args) (obs.map (aF.ren (idx done))))).bind λ(r,avN)=>
   .nxt λn=>(rV (λi=>done.getD i (n+(i-done.length))) done avN).bind λ_=>
    .ret (r.ren (λi=>done.getD i (n+(i-done.length))))
def iY (cx:cd):List bm->List K->List K
 |T::hq,r::l=>cx.typ T r::iY cx hq l
 |_,l=>l
def Pg (y:Operand):Bool:=match y with
 | .const .nilIface=>true
 |_=>false
structure ng where
 params:List Nat
 assign:Code
 body:Code
 nt:Nat
class Env where
 code:Nat->Option ng
 glob:Nat->List (Option Nat)
section
variable [Env]
def jo (f:Nat):Bool:=(Env.code f).isSome
def nj (cx:cd) (Γ:hG) (o:Oper) (c9:Operand->K):HM K:=
 match o.op with
 | .move x=>.ret (cx.typ o.type (c9 x))
 | .assign x=>.ret (cx.typ o.type (c9 x))
 | .pick c a b=>match mo (c9 c) with
  |some t=>.br t (.ret (c9 a)) (.ret (c9 b))
  |none=>.fail
 | .alloc T=>Of cx T
 | .box T x=>A3 cx T (c9 x)
 | .build T ps=>AG cx T (ps.toList.map λp=>(p.1,c9 p.2))
 | .buildSlice T n ps=>DD cx T n (ps.toList.map λp=>(p.1,c9 p.2))
 | .load T a=>AY cx T (c9 a)
 | .store T a x=>OE cx T (c9 a) (cx.typ T (c9 x))
 | .nilCheck x=>match c9 x with
  | .ptr o t i p=>.ret (.ptr o t i p)
  | .fptr t x=>.ret (.fptr t x)
  |_=>.fail
 | .binOp b T x y _=>bif Pg y then Pm cx b T (c9 x) else O8 cx b T (c9 x) (c9 y)
 | .unOp b _ x=>KP b (c9 x)
 | .convert S T x=>OV cx S T (c9 x)
 | .makeFunc (.func f) a b=>.ret (.fn f (a.toList.map c9) (b.toList.map c9))
 | .makeInterface T x=>match cx.ti T with
  |some i=>bif decide (i.ty=.opq) then .fail else .ret (.iface T (c9 x))
  |none=>.fail
 | .makeSlice T l c=>match uP (c9 l),uP (c9 c) with
  |some l,some c=>MD cx T l c
  |_,_=>.fail
 | .slice T x aM u fM=>match xp (aM.map c9),xp (u.map c9),xp (fM.map c9) with
  |some l,some h,some m=>OC cx T (c9 x) l h m
  |_,_,_=>.fail
 | .fieldAddr T x f=>Mz cx T (c9 x) f
 | .field T x f=>Ol cx T (c9 x) f
 | .indexAddr T x i=>match uP (c9 i) with
  |some i=>MB cx T (c9 x) i
  |none=>.fail
 | .index T x i=>match uP (c9 i) with
  |some i=>Oo cx T (c9 x) i
  |none=>.fail
 | .range T x=>OH cx T (c9 x)
 | .next x b=>bif b then OR (c9 x) else .fail
 | .extract x j=>match c9 x with
  | .tup l=>HM.ofOpt l[j]?
  |_=>.fail
 | .call c=>match c.callee with
  | .builtin b=>Nz cx b c.argTypes.toList (iY cx c.argTypes.toList (c.args.toList.map c9))
  | .value f=>match c9 f with
   | .fn g first lD=>bif jo g then .fail else rW cx Γ g (first++iY cx c.argTypes.toList (c.args.toList.map c9)++lD)
   | .yld Y o=>bif jo Y then rW cx Γ Y (.yld Y o::iY cx c.argTypes.toList (c.args.toList.map c9)) else .fail
   |_=>.fail
  | .invoke x nm=>match c9 x with
   | .iface T r=>match cx.ti T with
    |some i=>match vK i.meths nm with
     |some f=>bif jo f then .fail else rW cx Γ f (r::iY cx c.argTypes.toList (c.args.toList.map c9))
     |none=>.fail
    |none=>.fail
   |_=>.fail
 |_=>.fail
def dE:Nat:=1000000000
def h2 (R:bO):Operand->K
 | .tmp t=>bif Nat.beq t dE then .undef else (R.get t).getD .undef
 | .const v=>Gn v
 | .func f=>.fn f [] []
 | .global g=>match Env.glob g with
  |[]=>.undef
  |l=>.gp g 0 l
def Bi (b:Bool) (want:Bool):Bool:=match want with |true=>b |false=> !b
def lV (R:bO) (I:Option Tmp) (r:K):bO:=match I with
 |some I=>R.put I r
 |none=>R
def refine (R:bO) (I:Nat) (b:Bool):bO:=R.put I (.dat .bool b)
def uM (cx:cd) (Γ:hG) (o:Oper) (st:bz) (nx:Nat):DT (bz×Nat×dj):=
 ((nj cx Γ o (h2 st.regs)).run st.heap nx .none).bind λ(r,h,n,p)=>.leaf (⟨lV st.regs o.dst r,h⟩,n,p)
def qq (cx:cd) (Γ:hG) (ops:Array Oper) (o:Oper) (st:bz) (nx:Nat):DT (bz×Nat×dj):=
 match o.guard with
 |none=>uM cx Γ o st nx
 |some (j,want)=>match (ops[j]?).bind (·.dst) with
  |some I=>match (st.regs.get I).bind mo with
   |some b=>.br (Bi b want) (uM cx Γ o ⟨refine st.regs I want,st.heap⟩ nx) (.leaf (⟨lV (refine st.regs I (!want)) o.dst (.tup []),st.heap⟩,nx,.none))
   |none=>match st.regs.get I with
    |some (.tup [])=>.leaf (⟨lV st.regs o.dst (.tup []),st.heap⟩,nx,.none)
    |_=>.fail
  |none=>.fail
def uW:List K->List K->Bool
 |[],[]=>true
 | .ptr o t i p::l,.ptr dQ iB rk hf::m=>Nat.beq o dQ&&decide (t=iB)&&Nat.beq i rk&&decide (p=hf)&&uW l m
 |_,_=>false
def ua (o:Nat) (t:aB) (x:t.den):bO->bO
 |[]=>[]
 |(I,.ptr dQ iB i p)::l=>(I,bif Nat.beq o dQ&&decide (t=iB)&&Nat.beq i 0&&p.isEmpty then .fptr t x else .ptr dQ iB i p)::ua o t x l
 |(I,r)::l=>(I,r)::ua o t x l
def Oy (c:Call) (o:Oper) (st:bz):DT bz:=
 match c.callee,c.args.toList,o.dst,o.guard,st.regs.get dE with
 | .value f,[],none,none,some (.dfr g a b t xs)=>match h2 st.regs f with
  | .fn P2 [] lD=>match lD.drop a.length with
   | .ptr p ad 0 []::bQ=>bif Nat.beq g P2&&uW (lD.take a.length) a&&uW bQ b then
     match aE st.heap p with
     | .box _ iN (.dat v x)=>bif decide (ad=t)&&decide (iN=t) then .opt (v.cast? t x) λx=>.leaf ⟨(ua p t x st.regs).put dE (.dfr g a b t (x::xs)),bY st.heap p .gone⟩ else .fail
     |_=>.fail
    else .fail
   |_=>.fail
  |_=>.fail
 |_,_,_,_,_=>.fail
def oM (cx:cd) (Γ:hG) (ops:Array Oper):List Oper->bz->DT bz
 |[],st=>.leaf st
 |o::l,st=>(match o.op with
  | .defer c=>Oy c o st
  |_=>(qq cx Γ ops o st st.heap.length).bind λ(a8,_,_)=>.leaf a8).bind λa8=>oM cx Γ ops l a8
structure nf where
 dst:List Nat
 uses:List Nat
 fp:dj
def rR (ops:Array Oper) (o:Oper):List Nat:=o.looksAt ops
def o4:List Nat->List Nat->Bool
 |[],_=>true
 |a::l,m=> !has m a&&o4 l m
def nf.apart (a b:nf):Bool:=
 o4 a.dst b.uses&&o4 a.dst b.dst&&o4 a.uses b.dst&&
 o4 a.fp.wr b.fp.rd&&o4 a.fp.wr b.fp.fz&&o4 a.fp.wr b.fp.wr&&o4 a.fp.rd b.fp.wr&&o4 a.fp.fz b.fp.wr
def kt (ops:List Oper):List Nat:=go ops []
where
 go:List Oper->List Nat->List Nat
  |[],acc=>acc
  |o::l,acc=>go l (acc++[o.after.toList.foldl (λm e=>bif Region.binds .any e then m ||| (1 <<< e.on) ||| acc.getD e.on 0 else m) 0])
def uH (sv:List Nat):Nat->List nf->Bool
 |_,[]=>true
 |i,n::l=>go i n (i+1) l&&uH sv (i+1) l
where
 go (i:Nat) (n:nf):Nat->List nf->Bool
  |_,[]=>true
  |j,m::l=>((sv.getD j 0).testBit i||n.apart m)&&go i n (j+1) l
def slotsOf:Nat:=4
def E2 (ar:Nat) (p:dj):Bool:=p.rd.all (Nat.blt · ar)&&p.fz.all (Nat.blt · ar)&&p.wr.all (Nat.blt · ar)
def wZ:Nat->List Oper->Bool
 |_,[]=>true
 |i,o::l=>o.after.toList.all (λe=> !Region.binds .any e||Nat.blt e.on i)&&wZ (i+1) l
def AU (cx:cd) (Γ:hG) (ops:Array Oper) (base ar:Nat):Nat->List Oper->bz->List nf->DT (bz×List nf)
 |_,[],st,V=>.leaf (st,V)
 |i,o::l,st,V=>(qq cx Γ ops o st (base+slotsOf*i)).bind λ(a8,n,fp)=>
  bif Nat.ble n (base+slotsOf*i+slotsOf)&&E2 ar fp then AU cx Γ ops base ar (i+1) l a8 (V++[⟨o.dst.toList,rR ops o,fp⟩]) else .fail
def Oi (cx:cd) (Γ:hG) (ops:Array Oper) (draw:Bool) (st:bz):DT bz:=
 bif draw then
  (AU cx Γ ops st.heap.length (st.heap.length+slotsOf*ops.size) 0 ops.toList ⟨st.regs,st.heap++List.replicate (slotsOf*ops.size) .hole⟩ []).bind λ(a8,V)=>
   bif uH (kt ops.toList) 0 V&&wZ 0 ops.toList then .leaf a8 else .fail
 else oM cx Γ ops ops.toList st
inductive ed where
 |nrm |exit (id:Nat)|ret
def tW (ks:List Nat):bO->bO
 |[]=>[]
 |(I,r)::l=>bif has ks I then (I,r)::tW ks l else tW ks l
structure bk where
 cx:cd
 Γ:hG
 Λ:Nat->bz->DT (ed×bz)
 keep:Nat->Option (List Nat)
 m:Nat
 rfs:Nat->Option Nat:=λ_=>none
 its:List Nat:=[]
 dfr:Nat->Option (FuncId×List Nat×List Nat×aB):=λ_=>none
def pR:Code->Option Nat
 | .region id _ _=>some id
 | .seq a _=>pR a
 | .scope c=>pR c
 | .cond _ a _=>(pR a).map (· +100000)
 | .block _ c=>(pR c).map (· +200000)
 |_=>none
def I6 (a b:Code):Nat:=match pR a with
 |some i=>i
 |none=>(pR b).getD 0
def qP:Code->List Nat
 | .region _ ops _=>ops.toList.flatMap (rR ops)
 | .seq a b=>qP a++qP b
 | .cond c a b=>(match c with | .tmp t=>[t] |_=>[])++(qP a++qP b)
 | .block _ c=>qP c
 | .loop c=>qP c
 | .scope c=>qP c
 |_=>[]
def se:Code->List Nat
 | .seq a b=>se a++se b
 | .cond _ a b=>se a++se b
 | .block id c=>(se c).filter λi=> !Nat.beq i id
 | .loop c=>se c
 | .scope c=>se c
 | .exit i=>[i]
 |_=>[]
def nO:ed->Int
 | .nrm=>0 | .ret=>1 | .exit i=>2+(i:Int)
def A6:List ed->Int->bz->DT (ed×bz)
 |[],_,_=>.fail
 |e::l,p,st=>.br (decide (p=nO e)) (.leaf (e,st)) (A6 l p st)
def uE (R:bO):List Nat->bO
 |[]=>[]
 |I::us=>bif has us I||Nat.beq I dE then uE R us else match R.get I with
  |some r=>(I,r)::uE R us
  |none=>uE R us
def AR:bO->HM bO
 |[]=>.ret []
 |(I,r)::l=>(GF r).bind λgN=>(AR l).bind λfB=>.ret ((I,gN)::fB)
def UN (F:bk) (Y:Nat) (f:FuncId) (lD:List K) (R:bO):HM Int:=
 (AR R).bind λR=>.nw (.loop Y R 0) λo=>(rW F.cx F.Γ f (.yld Y o::lD)).bind λ_=>.rdw o λb=>match b with
  | .loop _ _ p=>.wr o .gone (.ret p)
  |_=>.fail
def KN (F:bk) (Y:Nat) (g:Operand) (us PB:List Nat) (st:bz):DT (ed×bz):=
 match h2 st.regs g with
 | .fn f [] lD=>bif has F.its f&& !jo f&&(st.regs.get dE).isNone then
   ((UN F Y f lD (uE st.regs us)).run st.heap st.heap.length .none).bind λ(p,h,_,_)=>A6 (.nrm:: .ret::PB.map .exit) p ⟨st.regs,h⟩
  else .fail
 |_=>.fail
def xg (R:bO):List Nat->Option (List K)
 |[]=>some []
 |I::l=>match R.get I with
  |some r=>(xg R l).map (r:: ·)
  |none=>none
def Po (F:bk) (id:Nat) (st:bz):DT bz:=match F.dfr id with
 |none=>.leaf st
 |some (f,us,aO,t)=>match st.regs.get dE,xg st.regs us,xg st.regs aO with
  |some (.tup []),some a,some b=>.leaf ⟨st.regs.put dE (.dfr f a b t []),st.heap⟩
  |_,_,_=>.fail
def gb (F:bk):Code->Nat->bz->DT (ed×bz)
 | .skip,_,st=>.leaf (.nrm,st)
 | .region id ops draw,_,st=>(Oi F.cx F.Γ ops draw st).bind λst=>match F.keep id with
  |some ks=>.leaf (.nrm,⟨tW ks st.regs,st.heap⟩)
  |none=>(Po F id st).bind λst=>.leaf (.nrm,st)
 | .seq a b,k,st=>(gb F a k st).bind λ(e,a8)=>match e with
  | .nrm=>gb F b k a8
  |e=>.leaf (e,a8)
 | .cond c a b,k,st=>match mo (h2 st.regs c) with
  |some t=>match c with
   | .tmp I=>.br t (gb F a k ⟨refine st.regs I true,st.heap⟩) (gb F b k ⟨refine st.regs I false,st.heap⟩)
   |_=>.br t (gb F a k st) (gb F b k st)
  |none=>.fail
 | .block id c,_,st=>(gb F c id st).bind λ(e,a8)=>match e with
  | .exit i=>bif Nat.beq i id then .leaf (.nrm,a8) else .leaf (.exit i,a8)
  |e=>.leaf (e,a8)
 | .loop _,k,st=>F.Λ k st
 | .rangeFunc g _ a b,_,st=>match F.rfs (I6 a b) with
  |some Y=>KN F Y g (qP a++qP b) (se b) st
  |none=>.fail
 | .exit id,_,st=>.leaf (.exit id,st)
 | .ret,_,st=>.leaf (.ret,st)
 | .scope c,k,st=>gb F c k st
 | .label _,_,st=>.leaf (.nrm,st)
 |_,_,_=>.fail
def fQ:Nat->List K->bO
 |_,[]=>[]
 |i,r::l=>(i,r)::fQ (i+1) l
def lX (cx:cd) (R:bO):Nat->List ResultVar->HM bO
 |_,[]=>.ret []
 |j,v::l=>(match v with
   | .tmp t=>HM.ret (h2 R (.tmp t))
   | .cell a T=>AY cx T (h2 R (.tmp a))).bind λr=>(lX cx R (j+1) l).bind λfB=>.ret ((j,r)::fB)
def k2:Nat->List Nat
 |0=>[]
 |n+1=>k2 n++[n]
inductive cm where
 |dat (t:aB)
 |clip (t:aB)
 |own (t:aB) (o:Nat)
 |ptr (o:Nat) (t:aB) (i:Nat) (p:List Nat)
 |agg (l:List cm)
 |fn (f:FuncId) (first lD:List cm)
 |iface (T:bm) (r:cm)
 |nilI |nilF |nilP |undef
 |nils (e:bm) (t:aB)
 |yld (Y:Nat) (o:Nat)
 |dfr (f:FuncId) (a b:List cm) (t:aB)
inductive dX where
 |arr (e:bm) (t:aB) (fz:Bool)
 |box (T:bm) (t:aB) (r:cm)
 |iter
 |gone
 |loop (Y:Nat) (R:List (Nat×cm))
structure Shape where
 regs:List (Nat×cm)
 objs:List dX
mutual
def cm.holes:cm->List aB
 | .dat t=>[t] | .clip t=>[.list t] | .agg l=>cm.holesL l | .fn _ a b=>cm.holesL a++cm.holesL b | .iface _ r=>r.holes | .dfr _ a b t=>cm.holesL a++(cm.holesL b++[.list t])|_=>[]
def cm.holesL:List cm->List aB
 |[]=>[] |d::l=>d.holes++cm.holesL l
end
def dX.holes:dX->List aB
 | .arr _ t _=>[.list t] | .box _ _ r=>r.holes | .iter=>[.str,.int .i64] | .gone=>[] | .loop _ R=>R.flatMap (λp=>p.2.holes)++[.int .i64]
def chain:List aB->aB
 |[]=>.unit |t::l=>.pair t (chain l)
def Shape.ty (S:Shape):aB:=chain (S.regs.flatMap (λp=>p.2.holes)++S.objs.flatMap dX.holes)
def mw (t:aB):List eD->Option (t.den×List eD)
 |[]=>none
 |I::l=>(I.t.cast? t I.x).map λx=>(x,l)
mutual
def cm.enc:cm->List eD->Option (K×List eD)
 | .dat t,l=>(mw t l).map λp=>(.dat t p.1,p.2)
 | .clip t,l=>(mw (.list t) l).map λp=>(.clip t p.1,p.2)
 | .own t o,l=>some (.own t o,l)
 | .ptr o t i p,l=>some (.ptr o t i p,l)
 | .agg d,l=>(cm.encL d l).map λp=>(.agg p.1,p.2)
 | .fn f a b,l=>match cm.encL a l with
  |some (bn,l)=>(cm.encL b l).map λp=>(.fn f bn p.1,p.2)
  |none=>none
 | .iface T r,l=>(r.enc l).map λp=>(.iface T p.1,p.2)
 | .dfr f a b t,l=>match cm.encL a l with
  |some (bn,l)=>match cm.encL b l with
   |some (bQ,l)=>(mw (.list t) l).map λp=>(.dfr f bn bQ t p.1,p.2)
   |none=>none
  |none=>none
 | .nilI,l=>some (.nilI,l)| .nilF,l=>some (.nilF,l)| .nilP,l=>some (.nilP,l)| .undef,l=>some (.undef,l)| .nils e t,l=>some (.nils e t,l)| .yld Y o,l=>some (.yld Y o,l)
def cm.encL:List cm->List eD->Option (List K×List eD)
 |[],l=>some ([],l)
 |d::r,l=>match d.enc l with
  |some (x,l)=>(cm.encL r l).map λp=>(x::p.1,p.2)
  |none=>none
end
def qw:List (Nat×cm)->List eD->Option (bO×List eD)
 |[],l=>some ([],l)
 |(I,d)::r,l=>match d.enc l with
  |some (x,l)=>(qw r l).map λp=>((I,x)::p.1,p.2)
  |none=>none
def dX.enc:dX->List eD->Option (aF×List eD)
 | .arr e t fz,l=>(mw (.list t) l).map λp=>(.arr e t p.1 fz,p.2)
 | .box T t r,l=>(r.enc l).map λp=>(.box T t p.1,p.2)
 | .iter,l=>match mw .str l with
  |some (d,l)=>(mw (.int .i64) l).map λp=>(.iter d p.1,p.2)
  |none=>none
 | .gone,l=>some (.gone,l)
 | .loop Y R,l=>match qw R l with
  |some (eH,l)=>(mw (.int .i64) l).map λp=>(.loop Y eH p.1,p.2)
  |none=>none
def xd:List dX->List eD->Option (List aF×List eD)
 |[],l=>some ([],l)
 |d::r,l=>match d.enc l with
  |some (x,l)=>(xd r l).map λp=>(x::p.1,p.2)
  |none=>none
def Shape.enc (S:Shape) (d:S.ty.den):bz:=
 match qw S.regs (S.ty.parts d) with
 |some (R,l)=>match xd S.objs l with
  |some (H,_)=>⟨R,H⟩
  |none=>⟨[],[]⟩
 |none=>⟨[],[]⟩
mutual
def cm.dec:cm->K->Option (List eD)
 | .dat t,.dat ad x=>bif decide (ad=t) then some [⟨ad,x⟩] else none
 | .clip t,.clip ad x=>bif decide (ad=t) then some [⟨.list ad,x⟩] else none
 | .own t o,.own ad dQ=>bif decide (ad=t)&&Nat.beq o dQ then some [] else none
 | .ptr o t i p,.ptr dQ iB rk hf=>bif Nat.beq o dQ&&decide (t=iB)&&Nat.beq i rk&&decide (p=hf) then some [] else none
 | .agg l,.agg r=>cm.decL l r
 | .fn f a b,.fn g x y=>bif Nat.beq f g then match cm.decL a x with
   |some l=>(cm.decL b y).map λm=>l++m
   |none=>none
  else none
 | .iface T r,.iface U d=>bif Nat.beq T U then r.dec d else none
 | .dfr f a b t,.dfr g x y ad xs=>bif Nat.beq f g&&decide (ad=t) then match cm.decL a x with
   |some l=>match cm.decL b y with
    |some m=>some (l++(m++[⟨.list ad,xs⟩]))
    |none=>none
   |none=>none
  else none
 | .nilI,.nilI=>some [] | .nilF,.nilF=>some [] | .nilP,.nilP=>some [] | .undef,.undef=>some []
 | .yld Y o,.yld r8 dQ=>bif Nat.beq Y r8&&Nat.beq o dQ then some [] else none
 | .nils e t,.nils eg iB=>bif Nat.beq e eg&&decide (t=iB) then some [] else none
 |_,_=>none
def cm.decL:List cm->List K->Option (List eD)
 |[],[]=>some []
 |d::l,r::m=>match d.dec r with
  |some a=>(cm.decL l m).map λb=>a++b
  |none=>none
 |_,_=>none
end
def iV:List (Nat×cm)->bO->Option (List eD)
 |[],[]=>some []
 |(I,d)::l,(e,r)::m=>bif Nat.beq I e then match d.dec r with
   |some a=>(iV l m).map λb=>a++b
   |none=>none
  else none
 |_,_=>none
def dX.dec:dX->aF->Option (List eD)
 | .arr e t fz,.arr eg ad xs kF=>bif Nat.beq e eg&&decide (ad=t)&&decide (fz=kF) then some [⟨.list ad,xs⟩] else none
 | .box T t r,.box EK iB d=>bif Nat.beq T EK&&decide (t=iB) then r.dec d else none
 | .iter,.iter d pos=>some [⟨.str,d⟩,⟨.int .i64,pos⟩]
 | .gone,.gone=>some []
 | .loop Y R,.loop r8 eH p=>bif Nat.beq Y r8 then (iV R eH).map λl=>l++[⟨.int .i64,p⟩] else none
 |_,_=>none
def fR:List dX->List aF->Option (List eD)
 |[],[]=>some []
 |d::l,b::m=>match d.dec b with
  |some a=>(fR l m).map λc=>a++c
  |none=>none
 |_,_=>none
def wY:(nb:List aB)->List eD->Option (chain nb).den
 |[],[]=>some ()
 |t::nb,I::l=>match I.t.cast? t I.x,wY nb l with
  |some x,some y=>some (x,y)
  |_,_=>none
 |_,_=>none
def Shape.dec (S:Shape) (st:bz):Option S.ty.den:=
 match iV S.regs st.regs,fR S.objs st.heap with
 |some a,some b=>wY _ (a++b)
 |_,_=>none
mutual
def A4:cm->K->HM K
 | .dat t,r=>(xt t r).bind λx=>.ret (.dat t x)
 | .own _ _,.nils e t=>.nw (.arr e t [] false) λo=>.ret (.own t o)
 | .own _ _,.view t o 0 u=>.rdw o λb=>match b with
  | .arr e ad xs false=>.wr o .gone (.nw (.arr e ad (xs.take u) false) λo=>.ret (.own ad o))
  |_=>.fail
 | .own _ _,.view t o aM u=>.rdw o λb=>match b with
  | .arr e ad xs false=>bif decide (ad=t) then .wr o .gone (.nw (.arr e ad ((xs.take u).drop aM) false) λo=>.ret (.own ad o)) else .fail
  |_=>.fail
 | .agg l,.agg m=>(Gm l m).bind λm=>.ret (.agg m)
 |_,r=>.ret r
def Gm:List cm->List K->HM (List K)
 |d::l,r::m=>(A4 d r).bind λr=>(Gm l m).bind λm=>.ret (r::m)
 |_,m=>.ret m
end
def z7:List (Nat×cm)->bO->HM bO
 |[],_=>.ret []
 |(I,d)::l,R=>match R.get I with
  |some r=>(A4 d r).bind λr=>(z7 l R).bind λeH=>.ret ((I,r)::eH)
  |none=>.fail
def rC:List Nat->List dX->HM Unit
 |o::l,.box _ _ d::m=>.rdw o λb=>match b with
  | .box _ _ r=>(A4 d r).bind λr=>.rdw o λb=>match b with
   | .box T t _=>bif r.fits t then .wr o (.box T t r) (rC l m) else .fail
   |_=>.fail
  |_=>.fail
 |o::l,.arr _ _ true::m=>.rdw o λb=>match b with
  | .arr ..=>.frz o (rC l m)
  |_=>.fail
 |o::l,.gone::m=>.rdw o λb=>match b with
  | .arr ..=>.wr o .gone (rC l m)
  |_=>rC l m
 |_::l,_::m=>rC l m
 |_,_=>.ret ()
def uy:List dX->Nat->HM (List (Nat×Nat))
 |[],_=>.ret []
 | .gone::l,o=>.rdw o λb=>match b with
  | .arr e t xs fz=>.wr o .gone (.nw (.arr e t xs fz) λn=>(uy l (o+1)).bind λq=>.ret ((o,n)::q))
  |_=>uy l (o+1)
 |_::l,o=>uy l (o+1)
def fwd:List (Nat×Nat)->Nat->Nat
 |[],i=>i
 |(o,n)::l,i=>bif Nat.beq i o then n else fwd l i
def wV (ρ:Nat->Nat):List Nat->HM Unit
 |[]=>.ret ()
 |o::l=>.rdw o λb=>match b with
  | .box T t r=>.wr o (.box T t (r.ren ρ)) (wV ρ l)
  |_=>wV ρ l
def GV (S:Shape) (m:Nat) (R:bO):HM bz:=
 (z7 S.regs R).bind λR=>(ll 200 (k2 m++R.ids) [] []).bind λp=>(rC p.1 S.objs).bind λ_=>
  (ll 200 (k2 m++R.ids) [] []).bind λq=>.ret ⟨R.ren (idx q.1),q.2.map (aF.ren (idx q.1))⟩
def zV (S:Shape) (m:Nat) (R:bO):HM bz:=
 (uy (S.objs.take m) 0).bind λq=>match q with
  |[]=>GV S m R
  |q=>(ll 200 (k2 m++R.ids) [] []).bind λp=>(wV (fwd q) p.1).bind λ_=>GV S m (R.ren (fwd q))
def Shape.take (S:Shape) (m:Nat) (st:bz):DT S.ty.den:=
 ((zV S m st.regs).run st.heap st.heap.length .none).bind λ(a8,_,_,_)=>DT.ofOpt (S.dec a8)
def ed.is:ed->ed->Bool
 | .nrm,.nrm=>true | .ret,.ret=>true | .exit i,.exit j=>Nat.beq i j |_,_=>false
structure bL where
 S:Shape
 x:ed
 X:Shape
 y:ed
 Y:Shape
abbrev bL.Out (ar:bL):Type:=ar.X.ty.den⊕ar.Y.ty.den
def bL.out (ar:bL) (m:Nat) (e:ed) (st:bz):DT ar.Out:=
 bif e.is ar.x then (ar.X.take m st).bind λx=>.leaf (.inl x) else bif e.is ar.y then (ar.Y.take m st).bind λy=>.leaf (.inr y) else .fail
def bL.body (ar:bL) (F:bk) (c:Code) (k:Nat) (d:ar.S.ty.den):DT (ar.S.ty.den⊕ar.Out):=
 (gb F c k (ar.S.enc d)).bind λ(e,st)=>match e with
  | .nrm=>(ar.S.take F.m st).bind λd=>.leaf (.inl d)
  |e=>(ar.out F.m e st).bind λo=>.leaf (.inr o)
def bL.go (ar:bL) (f:ar.S.ty.den->Option ar.Out) (m:Nat) (st:bz):DT (ed×bz):=
 (ar.S.take m st).bind λd=>.alt (f d) (λx=>.leaf (ar.x,ar.X.enc x)) (λy=>.leaf (ar.y,ar.Y.enc y))
def eI {σ ρ:Type} (b:σ->Option (σ⊕ρ)):Nat->σ->Option ρ
 |0,_=>none
 |n+1,d=>match b d with
  |some (.inl t)=>eI b n t
  |some (.inr r)=>some r
  |none=>none
def kZ:Nat:=1000000000000000000000000
def b4 {σ ρ:Type} (b:σ->Option (σ⊕ρ)) (d:σ):Option ρ:=eI b kZ d
structure aV where
 f:FuncId
 S:Shape
 Z:Shape
 g:S.ty.den->Option Z.ty.den
def kf:bO->K
 |[(_,r)]=>r
 |l=>.tup (l.map (·.2))
def mM (F:bk) (fn:Func) (S Z:Shape) (d:S.ty.den):DT Z.ty.den:=
 (gb F (fn.body.getD .skip) 0 (S.enc d)).bind λ(e,st)=>match e with
  | .exit _=>.fail
  |_=>((lX F.cx st.regs 0 fn.results.toList).run st.heap st.heap.length .none).bind λ(R,h,_,_)=>Z.take F.m ⟨R,h⟩
def w4:List Nat->List K->bO->bO
 |p::ps,r::rs,R=>w4 ps rs (R.put p r)
 |_,_,R=>R
def ed.isNrm:ed->Bool
 | .nrm=>true |_=>false
def Pa (Y:Nat) (e:ed) (st:bz):DT bz:=match aE st.heap 0 with
 | .loop EY R p=>bif Nat.beq EY Y then .br (decide (p= -1)) (.leaf ⟨[(0,.dat .bool e.isNrm)],bY st.heap 0 (.loop Y R (nO e))⟩) .fail else .fail
 |_=>.fail
def sf (F:bk) (C:bk->Code->Nat->bz->DT (ed×bz)) (Y:Nat) (c:ng) (S Z:Shape) (d:S.ty.den):DT Z.ty.den:=
 match (S.enc d).regs,(S.enc d).heap with
 |(_,.yld _ 0)::args,.loop pO R p::H=>bif Nat.beq pO Y then .br (decide (p=0))
  (match (w4 c.params (args.map (·.2)) R).get dE with
  |some _=>.fail
  |none=>(C F c.assign 0 ⟨w4 c.params (args.map (·.2)) R,.loop pO R p::H⟩).bind λ(e,st)=>match e with
   | .nrm=>match aE st.heap 0 with
    | .loop n9 R p=>bif Nat.beq n9 Y then .br (decide (p=0)) ((C F c.body 0 ⟨st.regs,bY st.heap 0 (.loop Y R (-1))⟩).bind λ(e,st)=>(Pa Y e st).bind λst=>Z.take F.m st) .fail else .fail
    |_=>.fail
   |_=>.fail) .fail else .fail
 |_,_=>.fail
def uF (ar:bL) (m:Nat) (Fd:bk) (fd:FuncId) (fn:Func) (d:ar.S.ty.den):DT (ar.S.ty.den⊕ar.Out):=
 match (ar.S.enc d).regs.get dE with
 |some (.dfr f a b t xs)=>bif Nat.beq f fd&&Nat.ble (a.length+b.length+1) fn.ntmps then .br xs.isEmpty ((ar.X.take m ⟨(ar.S.enc d).regs,(ar.S.enc d).heap⟩).bind λx=>.leaf (.inr (.inl x)))
  (.opt xs.head? λx=>(gb Fd (fn.body.getD .skip) 0 ⟨(fQ 0 (a++ .fptr t x::b)).put dE (.tup []),(ar.S.enc d).heap⟩).bind λ(e,st)=>match e,st.regs.get dE with
   | .exit _,_=>.fail
   |_,some (.tup [])=>(ar.S.take m ⟨(ar.S.enc d).regs.put dE (.dfr f a b t xs.tail),st.heap⟩).bind λd=>.leaf (.inl d)
   |_,_=>.fail) else .fail
 |_=>.fail
def GU (F:bk) (fn:Func) (S Z:Shape) (d:S.ty.den):DT Z.ty.den:=
 (gb F (fn.body.getD .skip) 0 ⟨(S.enc d).regs.put dE (.tup []),(S.enc d).heap⟩).bind λ(e,st)=>match e with
  | .exit _=>.fail
  |_=>(F.Λ dE st).bind λ(_,st)=>((lX F.cx st.regs 0 fn.results.toList).run st.heap st.heap.length .none).bind λ(R,h,_,_)=>Z.take F.m ⟨R,h⟩
def aV.run (cM:aV) (d:cM.S.ty.den):DT (K×List aF):=.opt (cM.g d) λz=>.leaf (kf (cM.Z.enc z).regs,(cM.Z.enc z).heap)
def hL:List aV->hG
 |[],_,_,_=>.fail
 |cM::l,f,args,H=>bif Nat.beq f cM.f then match cM.S.dec ⟨fQ 0 args,H⟩ with
   |some d=>cM.run d
   |none=>hL l f args H
  else hL l f args H
end
def et:Code->Nat->List (Nat×Code)
 | .seq a b,k=>et a k++et b k
 | .cond _ a b,k=>et a k++et b k
 | .block id c,_=>et c id
 | .loop c,k=>(k,c)::et c k
 | .scope c,k=>et c k
 |_,_=>[]
def bX (fn:Func):Code:=fn.body.getD .skip
def hy (c:Code) (i:Nat):Code:=((et c 0).getD i (0,.skip)).2
def lr (n:Nat):Code->List (Nat×ng)
 | .seq a b=>lr n a++lr n b
 | .cond _ a b=>lr n a++lr n b
 | .block _ c=>lr n c
 | .loop c=>lr n c
 | .scope c=>lr n c
 | .rangeFunc _ ps a b=>[(I6 a b,⟨ps.toList,a,b,n⟩)]
 |_=>[]
def kj (fn:Func) (i:Nat):ng:=((lr fn.ntmps (bX fn)).getD i (0,⟨[],.skip,.skip,0⟩)).2
def UR (fn:Func) (i:Nat):Code:=.seq (kj fn i).assign (kj fn i).body
open Go.RowKit
abbrev bJ:=Nat->Nat->Prop
def kv (φ:bJ) (w:bh) (b o:Nat) (cs:List az):Prop:= ∀i v,cs[i]? =some v->φ b (o+i)/\w.cell? ⟨b,o+i,none⟩=some v
def cY {α:Type} (R:α->List az->Prop):List α->List az->Prop
 |[],cs=>cs=[]
 |x::xs,cs=> ∃a7 aX,cs=a7++aX/\R x a7/\cY R xs aX
def bt (φ:bJ) (w:bh):(t:aB)->t.den->List az->Prop
 | .bool,x,cs=>cs=[.bool x]
 | .int k,x,cs=>cs=[.int k x]
 | .str,x,cs=>cs=[.string ⟨⟨x⟩⟩]
 | .opq,_,_=>False
 | .unit,_,cs=>cs=[]
 | .list t,xs,cs=> ∃A n c,cs=[.slice A n c]/\xs.length=n/\n<=c/\(n=0\/ ∃b o aW,A=some ⟨b,o,none⟩/\kv φ w b o aW/\cY (bt φ w t) xs aW)
 | .pair a b,x,cs=> ∃a7 aX,cs=a7++aX/\bt φ w a x.1 a7/\bt φ w b x.2 aX
theorem kv.mono {φ av:bJ} {w ao:bh} {b o:Nat} {cs:List az} (aP: ∀b k,φ b k->av b k) (aw: ∀b k,φ b k->ao.cell? ⟨b,k,none⟩=w.cell? ⟨b,k,none⟩) (h:kv φ w b o cs):kv av ao b o cs:=
 λi v u=>let ⟨s,E⟩:=h i v u;⟨aP _ _ s,(aw _ _ s).trans E⟩
theorem cY.imp {α:Type} {R eH:α->List az->Prop} (h: ∀x c,R x c->eH x c): ∀(xs:List α) (cs:List az),cY R xs cs->cY eH xs cs
 |[],_,e=>e
 |_::xs,_,⟨a7,aX,e,r,k⟩=>⟨a7,aX,e,h _ _ r,cY.imp h xs aX k⟩
theorem bt.mono {φ av:bJ} {w ao:bh} (aP: ∀b k,φ b k->av b k) (aw: ∀b k,φ b k->ao.cell? ⟨b,k,none⟩=w.cell? ⟨b,k,none⟩):
  ∀(t:aB) (x:t.den) (cs:List az),bt φ w t x cs->bt av ao t x cs
 | .bool,_,_,h=>h | .int _,_,_,h=>h | .str,_,_,h=>h | .opq,_,_,h=>h | .unit,_,_,h=>h
 | .list t,xs,cs,⟨A,n,c,e,ab,aR,h⟩=>⟨A,n,c,e,ab,aR,h.imp id λ⟨b,o,aW,e,aS,af⟩=>⟨b,o,aW,e,aS.mono aP aw,af.imp λx c=>bt.mono aP aw t x c⟩⟩
 | .pair a b,x,cs,⟨a7,aX,e,s,E⟩=>⟨a7,aX,e,bt.mono aP aw a _ _ s,bt.mono aP aw b _ _ E⟩
theorem bt.len {φ:bJ} {w:bh}: ∀(t:aB) (x:t.den) (cs:List az),bt φ w t x cs->cs.length=t.size
 | .bool,_,_,h=>by simp[bt]at h;simp[h,aB.size]
 | .int _,_,_,h=>by simp[bt]at h;simp[h,aB.size]
 | .str,_,_,h=>by simp[bt]at h;simp[h,aB.size]
 | .opq,_,_,h=>h.elim
 | .unit,_,_,h=>by simp[bt]at h;simp[h,aB.size]
 | .list t,xs,cs,⟨A,n,c,e,_⟩=>by simp[e,aB.size]
 | .pair a b,x,cs,⟨a7,aX,e,s,E⟩=>by simp[e,aB.size,bt.len a _ _ s,bt.len b _ _ E]
theorem bt.one {φ:bJ} {w:bh}: ∀(t:aB) (x:t.den) (cs:List az),bt φ w t x cs-> ∀v∈cs,v.oneCell'=true
 | .bool,_,_,h=>by simp[bt]at h;simp[h];rfl
 | .int _,_,_,h=>by simp[bt]at h;simp[h];rfl
 | .str,_,_,h=>by simp[bt]at h;simp[h];rfl
 | .opq,_,_,h=>h.elim
 | .unit,_,_,h=>by simp[bt]at h;simp[h]
 | .list t,xs,cs,⟨A,n,c,e,_⟩=>by simp[e];rfl
 | .pair a b,x,cs,⟨a7,aX,e,s,E⟩=>by
  subst e;intro v aZ;rcases dk.1 aZ with aZ |aZ
  ·exact bt.one a _ _ s v aZ
  ·exact bt.one b _ _ E v aZ
section chunks
variable {α:Type} {R:α->List az->Prop} {d:Nat}
theorem cY.len (ae: ∀x c,R x c->c.length=d): ∀(xs:List α) (cs:List az),cY R xs cs->cs.length=xs.length*d
 |[],_,e=>by simp[cY]at e;simp[e]
 |_::xs,_,⟨a7,aX,e,r,k⟩=>by simp[e,ae _ _ r,cY.len ae xs aX k,Nat.add_mul,Nat.add_comm]
theorem cY.get (ae: ∀x c,R x c->c.length=d): ∀(xs:List α) (cs:List az),cY R xs cs-> ∀i x,xs[i]? =some x->R x ((cs.drop (i*d)).take d)
 |[],_,_,i,x,ai=>by simp at ai
 |y::xs,_,⟨a7,aX,e,r,k⟩,i,x,ai=>by
  subst e;cases i with
  |zero=>
   simp at ai;subst ai;have:=ae _ _ r;subst this;simpa using r
  |succ i=>
   have CL:xs[i]? =some x:=by simpa using ai
   have:=cY.get ae xs aX k i x CL;rw[show (i+1)*d=a7.length+i*d by rw[ae _ _ r,Nat.add_mul];omega,<-List.drop_drop,List.drop_left];exact this
theorem cY.append: ∀(xs aW:List α) (cs e6:List az),cY R xs cs->cY R aW e6->cY R (xs++aW) (cs++e6)
 |[],_,_,_,e,h=>by simp[cY]at e;subst e;simpa using h
 |_::xs,aW,_,e6,⟨a7,aX,e,r,k⟩,h=>⟨a7,aX++e6,by simp[e],r,cY.append xs aW aX e6 k h⟩
theorem cY.drop (ae: ∀x c,R x c->c.length=d): ∀(i:Nat) (xs:List α) (cs:List az),cY R xs cs->cY R (xs.drop i) (cs.drop (i*d))
 |0,xs,cs,h=>by simpa using h
 |i+1,[],cs,h=>by simp[cY]at h ⊢;simp[h]
 |i+1,_::xs,_,⟨a7,aX,e,r,k⟩=>by
  subst e;have L:(a7++aX).drop ((i+1)*d)=aX.drop (i*d):=by rw[show (i+1)*d=a7.length+i*d by rw[ae _ _ r,Nat.add_mul];omega,<-List.drop_drop,List.drop_left]
  rw[L];exact cY.drop ae i xs aX k
theorem cY.take (ae: ∀x c,R x c->c.length=d): ∀(i:Nat) (xs:List α) (cs:List az),cY R xs cs->cY R (xs.take i) (cs.take (i*d))
 |0,xs,cs,h=>by simp[cY]
 |i+1,[],cs,h=>by simp[cY]at h ⊢;simp[h]
 |i+1,_::xs,_,⟨a7,aX,e,r,k⟩=>by subst e;refine ⟨a7,aX.take (i*d),?_,r,cY.take ae i xs aX k⟩;rw[show (i+1)*d=a7.length+i*d by rw[ae _ _ r,Nat.add_mul];omega,List.take_length_add_append]
theorem cY.set (ae: ∀x c,R x c->c.length=d): ∀(xs:List α) (cs:List az),cY R xs cs-> ∀(i:Nat) (x:α) (c:List az),i<xs.length->R x c->cY R (xs.set i x) (cs.take (i*d)++c++cs.drop (i*d+d))
 |[],_,_,i,x,c,u,_=>by simp at u
 |y::xs,_,⟨a7,aX,e,r,k⟩,i,x,c,u,au=>by
  subst e;cases i with
  |zero=>
   refine ⟨c,aX,?_,au,k⟩;have:=ae _ _ r;subst this;simp
  |succ i=>
   have aQ:=cY.set ae xs aX k i x c (by simpa using u) au;refine ⟨a7,_,?_,r,aQ⟩;have L:(i+1)*d=a7.length+i*d:=by rw[ae _ _ r,Nat.add_mul];omega
   rw[L,List.take_length_add_append,show a7.length+i*d+d=a7.length+(i*d+d) by omega,<-List.drop_drop,List.drop_left];simp
theorem cY.replicate {x:α} {c:List az} (au:R x c): ∀n,cY R (List.replicate n x) ((List.replicate n c).flatten)
 |0=>by simp[cY]
 |n+1=>⟨c,(List.replicate n c).flatten,by simp[List.replicate_succ],au,cY.replicate au n⟩
end chunks
def j8:az->Bool
 | .agg _=>true |_=>false
def cA (φ:bJ) (w:bh) (t:aB) (x:t.den) (v:az):Prop:=bt φ w t x v.cells.toList/\j8 v=t.isAgg
theorem rE {v:az} (h:j8 v=false):v.cells= #[v]:=by cases v<;>first |rfl |(simp[j8]at h)
theorem uO {v:az} (h:j8 v=true): ∃cs,v=.agg cs:=by cases v<;>first |exact ⟨_,rfl⟩|(simp[j8]at h)
theorem cA.int {φ:bJ} {w:bh} {k:IntKind} {x:Int} {v:az}:cA φ w (.int k) x v↔v=.int k x:=by
 constructor
 ·rintro ⟨s,E⟩;rw[rE E]at s;simpa [bt] using s
 ·rintro rfl;exact ⟨rfl,rfl⟩
theorem cA.bool {φ:bJ} {w:bh} {x:Bool} {v:az}:cA φ w .bool x v↔v=.bool x:=by
 constructor
 ·rintro ⟨s,E⟩;rw[rE E]at s;simpa [bt] using s
 ·rintro rfl;exact ⟨rfl,rfl⟩
theorem cA.str {φ:bJ} {w:bh} {x:List UInt8} {v:az}:cA φ w .str x v↔v=.string ⟨⟨x⟩⟩:=by
 constructor
 ·rintro ⟨s,E⟩;rw[rE E]at s;simpa [bt] using s
 ·rintro rfl;exact ⟨rfl,rfl⟩
theorem cA.list {φ:bJ} {w:bh} {t:aB} {xs:List t.den} {v:az} (h:cA φ w (.list t) xs v):
  ∃A n c,v=.slice A n c/\xs.length=n/\n<=c/\(n=0\/ ∃b o aW,A=some ⟨b,o,none⟩/\kv φ w b o aW/\cY (bt φ w t) xs aW):=by
 obtain ⟨s,E⟩:=h;rw[rE E]at s;obtain ⟨A,n,c,e,h⟩:=s;exact ⟨A,n,c,by simpa using e,h⟩
def mQ:Option Nat->az
 |some f=>.func (.func f) #[] #[] |none=>.nilFunc
mutual
def K.rel (φ:bJ) (ι:Nat->az) (w:bh):K->az->Prop
 | .undef,_=>True
 | .dat t x,v=>cA φ w t x v
 | .clip t xs,v=> ∃A n,v=.slice A n n/\bt φ w (.list t) xs [v]
 | .nilv,v=>v=.slice none 0 0
 | .nils _ _,v=>v=.slice none 0 0
 | .own _ o,v=>v=ι o/\ ∃A n c,v=.slice A n c
 | .view t o aM u,v=> ∃A n c dg,ι o=.slice A n c/\aM<=u/\u<=n/\n<=c/\v=.slice dg (u-aM) (c-aM)/\(c≠aM->dg=A.map (·.add (aM*t.size)))/\(c≠0-> ∃b k,A=some ⟨b,k,none⟩)
 | .ptr o t i p,v=> ∃b k,((∃n c,ι o=.slice (some ⟨b,k,none⟩) n c/\i<n)\/(ι o=.pointer (some ⟨b,0,none⟩)/\i=0/\k=0))/\v=.pointer (some ⟨b,k+i*t.size+t.offAt p,none⟩)/\(t.at_ p).isSome
 | .fptr t x,v=> ∃b o cs,v=.pointer (some ⟨b,o,none⟩)/\kv φ w b o cs/\bt φ w t x cs
 | .agg l,v=> ∃cs,v=.agg cs/\K.relL φ ι w l cs.toList
 | .tup l,v=> ∃aO,v=.tuple aO/\K.relT φ ι w l aO.toList
 | .fn f a b,v=> ∃x y,v=.func (.func f) x y/\K.relT φ ι w a x.toList/\K.relT φ ι w b y.toList
 | .iface T r,v=> ∃ad,v=.iface T ad/\r.rel φ ι w ad
 | .nilI,v=>v=.nilIface
 | .nilF,v=>v=.nilFunc
 | .nilP,v=>v=.pointer none
 | .lim t xs c,v=> ∃A n,v=.slice A n c/\bt φ w (.list t) xs [v]
 | .atl n,v=> ∃c:Nat,v=.int .i64 (c:Int)/\n<=c
 | .yld _ o,v=>v=ι o/\ ∃l,v=.func (.yield l) #[] #[]
 | .gp b off l,v=>v=.pointer (some ⟨b,off,none⟩)/\kv φ w b off (l.map mQ)
 | .dfr f a b t xs,v=> ∃aO:List az,v=.tuple aO.toArray/\aO.length=xs.length/\ ∀(i:Nat) (x:t.den) (ad:az),xs[i]? =some x->aO[i]? =some ad-> ∃a7 lE aX,ad=.func (.func f) #[] (a7++lE::aX).toArray/\K.relT φ ι w a a7/\(∃fj o cs,lE=.pointer (some ⟨fj,o,none⟩)/\kv φ w fj o cs/\bt φ w t x cs)/\K.relT φ ι w b aX
def K.relL (φ:bJ) (ι:Nat->az) (w:bh):List K->List az->Prop
 |[],cs=>cs=[]
 |r::l,cs=> ∃v aX,cs=v.cells.toList++aX/\r.rel φ ι w v/\K.relL φ ι w l aX
def K.relT (φ:bJ) (ι:Nat->az) (w:bh):List K->List az->Prop
 |[],aO=>aO=[]
 |r::l,aO=> ∃v m,aO=v::m/\r.rel φ ι w v/\K.relT φ ι w l m
end
def dG:az->Option Nat
 | .slice (some a) _ c=>if c=0 then none else some a.block
 | .pointer (some a)=>some a.block
 | .func (.yield l) _ _=>some l
 |_=>none
def su:az->Nat
 | .slice (some a) _ _=>a.off
 |_=>0
def aF.owns:aF->Bool
 | .arr ..=>true | .box ..=>true | .iter ..=>true | .loop ..=>true |_=>false
def aF.live:aF->Bool
 | .hole=>false |_=>true
def sI (c0:Nat×Nat) (n:Nat):Prop:= ∀k,k<n-> ¬(c0.1<=k/\k<c0.2)
structure xQ (t:aB) (c0:Nat×Nat) (n:Nat):Prop where
 ok:sI c0 n
 last:t=.int .u8\/ ¬(c0.1<=n/\n<c0.2)
instance {t:aB} {c0:Nat×Nat} {n:Nat}:CoeFun (xQ t c0 n) λ_=> ∀k,k<n-> ¬(c0.1<=k/\k<c0.2):=⟨xQ.ok⟩
structure Cells (φ:bJ) (w:bh) (t:aB) (n:Nat) (cur:Array az):Prop where
 one: ∀v∈cur.toList,v.oneCell'=true
 rest:t=.int .u8\/ ∃eC:List t.den,cY (bt φ w t) eC (cur.toList.drop (n*t.size))
instance {φ:bJ} {w:bh} {t:aB} {n:Nat} {cur:Array az}:CoeFun (Cells φ w t n cur) λ_=> ∀v,v∈cur.toList->v.oneCell'=true:=⟨Cells.one⟩
theorem Cells.mono {φ av:bJ} {w ao:bh} {t:aB} {n:Nat} {cur:Array az} (aP: ∀b k,φ b k->av b k) (aw: ∀b k,φ b k->ao.cell? ⟨b,k,none⟩=w.cell? ⟨b,k,none⟩) (h:Cells φ w t n cur):Cells av ao t n cur:=
 ⟨h.one,h.rest.imp id λ⟨eC,bI⟩=>⟨eC,bI.imp λx c=>bt.mono aP aw t x c⟩⟩
theorem Cells.all {φ:bJ} {w:bh} {t:aB} {n:Nat} {cur:Array az} {xs:List t.den} (h:Cells φ w t n cur) (af:cY (bt φ w t) xs (cur.toList.take (n*t.size))):t=.int .u8\/ ∃eC:List t.den,cY (bt φ w t) (xs++eC) cur.toList:=
 h.rest.imp id λ⟨eC,bI⟩=>⟨eC,by have:=cY.append _ _ _ _ af bI;rwa [List.take_append_drop]at this⟩
theorem Cells.at_ {φ:bJ} {w:bh} {t:aB} {n:Nat} {cur:Array az} {xs:List t.den} (h:Cells φ w t n cur) (af:cY (bt φ w t) xs (cur.toList.take (n*t.size))) (j:Nat):t=.int .u8\/ ∃eC:List t.den,cY (bt φ w t) eC (cur.toList.drop (j*t.size)):=
 (h.all af).imp id λ⟨eC,bI⟩=>⟨_,bI.drop (λx c=>bt.len t x c) j⟩
theorem Nw {α:Type} {l news:List α} {a I:Nat} (aS:a<=l.length) (al:a+news.length<=I):(l.take a++news++l.drop (a+news.length)).drop I=l.drop I:=by rw[List.drop_append,List.drop_of_length_le (by simp;omega),List.nil_append,List.drop_drop];congr 1;simp;omega
def PA:ed->Code
 | .nrm=>.skip | .ret=>.ret | .exit i=>.exit i
def TF (rec:Loop) (p:Int):Prop:=
 (p=0/\rec.state=.ready/\rec.pending=none)\/(p= -1/\rec.state=.busy)\/ ∃e:ed,p=nO e/\e≠ .nrm/\rec.state=.done/\rec.pending=some (PA e)
structure GO [Env] (φ:bJ) (ι:Nat->az) (w:bh) (l:Nat) (rec:Loop) (c:ng) (Y:Nat) (R:bO) (p:Int):Prop where
 code:Env.code Y=some c
 heap:w.heap[l]? =some (.loop rec)
 params:rec.params.toList=c.params
 assign:rec.assign=c.assign
 body:rec.body=c.body
 nt:rec.tmps.size=c.nt
 st:TF rec p
 regs: ∀q∈R,q.2.rel φ ι w (rec.tmps.getD q.1 undef)
 phi: ∀k,¬φ l k
section
variable [Env]
def jt (φ:bJ) (ι:Nat->az) (w:bh) (o:Nat):aF->Prop
 | .hole=>True
 | .gone=>True
 | .arr e t xs fz=> ∃A n c,ι o=.slice A n c/\xs.length=n/\n<=c/\c<=maxLen/\(c=0\/
   ∃b pre cur c0,A=some ⟨b,pre.size,none⟩/\w.heap[b]? =some (.cells (pre++cur) e c0)/\cur.size=c*t.size/\xQ t c0 (pre.size+cur.size)/\(∀v∈pre.toList,v.oneCell'=true)/\Cells φ w t n cur/\
    cY (bt φ w t) xs (cur.toList.take (n*t.size))/\(∀k,φ b k->fz=true/\pre.size<=k/\k<pre.size+n*t.size)/\(fz=true-> ∀k,k<n*t.size->φ b (pre.size+k)))
 | .box T t r=> ∃b cur c0 v,ι o=.pointer (some ⟨b,0,none⟩)/\w.heap[b]? =some (.cells cur T c0)/\cur.size=t.size/\sI c0 cur.size/\(∀v∈cur.toList,v.oneCell'=true)/\
    r.rel φ ι w v/\v.cells=cur/\r.fits t=true/\(∀k,¬φ b k)
 | .iter d pos=> ∃(b n:Nat),ι o=.pointer (some ⟨b,0,none⟩)/\w.heap[b]? =some (.stringIter ⟨⟨d⟩⟩ n)/\pos=n/\(∀k,¬φ b k)
 | .loop Y R p=> ∃(l:Nat) (rec:Loop) (c:ng),ι o=.func (.yield l) #[] #[]/\GO φ ι w l rec c Y R p
def jT (ι:Nat->az) (H:List aF) (b:Nat):Prop:= ∃o,(aE H o).owns=true/\dG (ι o)=some b
structure cc (φ:bJ) (ι:Nat->az) (w:bh) (H:List aF):Prop where
 obj: ∀o,jt φ ι w o (aE H o)
 apart: ∀o dQ b,(aE H o).owns=true->(aE H dQ).owns=true->dG (ι o)=some b->dG (ι dQ)=some b->o=dQ
 phi: ∀b k,φ b k-> ∃v,w.cell? ⟨b,k,none⟩=some v
 ids: ∀o,∀i∈(aE H o).ids,(aE H i).live=true
 glob: ∀g,kv φ w g 0 ((Env.glob g).map mQ)
theorem cc.idsB {φ:bJ} {ι:Nat->az} {w:bh} {H:List aF} (h:cc φ ι w H) (o:Nat) (T:bm) (t:aB) (r:K) (J:aE H o=.box T t r) (i:Nat) (u:i∈r.ids):(aE H i).live=true:=h.ids o i (by rw[J];exact u)
end
structure Step (φ:bJ) (ι:Nat->az) (w:bh) (H:List aF) (av:bJ) (aH:Nat->az) (ao:bh) (aA:List aF):Prop where
 phi: ∀b k,φ b k->av b k
 cells: ∀b k,φ b k->ao.cell? ⟨b,k,none⟩=w.cell? ⟨b,k,none⟩
 newphi: ∀b k,av b k->φ b k\/w.heap.size<=b\/jT ι H b
 size:w.heap.size<=ao.heap.size
 os:ao.os=w.os
 tape:ao.tape=w.tape
 output:ao.output=w.output
 blocks: ∀b,b<w.heap.size-> ¬jT ι H b->ao.heap[b]? =w.heap[b]?
 own: ∀b,jT aH aA b->w.heap.size<=b\/jT ι H b
structure ej (ι:Nat->az) (H:List aF) (aH:Nat->az) (aA:List aF):Prop where
 iota: ∀o,(aE H o).live=true->aH o=ι o
 live: ∀o,(aE H o).live=true->(aE aA o).live=true
theorem ej.refl (ι:Nat->az) (H:List aF):ej ι H ι H:=⟨λ_ _=>rfl,λ_ h=>h⟩
theorem ej.trans {ι aH hF:Nat->az} {H aA mC:List aF} (h:ej ι H aH aA) (k:ej aH aA hF mC):ej ι H hF mC:=
 ⟨λo W=>(k.iota o (h.live o W)).trans (h.iota o W),λo W=>k.live o (h.live o W)⟩
theorem Step.refl (φ:bJ) (ι:Nat->az) (w:bh) (H:List aF):Step φ ι w H φ ι w H:=
 ⟨λ_ _ h=>h,λ_ _ _=>rfl,λ_ _ h=>.inl h,b7 _,rfl,rfl,rfl,λ_ _ _=>rfl,λ_ h=>.inr h⟩
theorem Step.trans {φ:bJ} {ι:Nat->az} {w:bh} {H:List aF} {av:bJ} {aH:Nat->az} {ao:bh} {aA:List aF} {Ep:bJ} {hF:Nat->az} {DR:bh} {mC:List aF}
  (h:Step φ ι w H av aH ao aA) (k:Step av aH ao aA Ep hF DR mC):Step φ ι w H Ep hF DR mC where
 phi b i J:=k.phi b i (h.phi b i J)
 cells b i J:=(k.cells b i (h.phi b i J)).trans (h.cells b i J)
 newphi b i J:=by
  rcases k.newphi b i J with s |s |s
  ·exact h.newphi b i s
  ·exact .inr (.inl (Nat.le_trans h.size s))
  ·exact .inr (h.own b s)
 size:=Nat.le_trans h.size k.size
 os:=k.os.trans h.os
 tape:=k.tape.trans h.tape
 output:=k.output.trans h.output
 blocks b J W:=by
  have aR: ¬jT aH aA b:=λaw=>(h.own b aw).elim (λs=>by omega) W
  rw[k.blocks b (Nat.lt_of_lt_of_le J h.size) aR];exact h.blocks b J W
 own b J:=by
  rcases k.own b J with s |s
  ·exact .inl (Nat.le_trans h.size s)
  ·exact h.own b s
theorem cA.mono {φ av:bJ} {w ao:bh} (aP: ∀b k,φ b k->av b k) (aw: ∀b k,φ b k->ao.cell? ⟨b,k,none⟩=w.cell? ⟨b,k,none⟩) {t:aB} {x:t.den} {v:az} (h:cA φ w t x v):cA av ao t x v:=
 ⟨bt.mono aP aw _ _ _ h.1,h.2⟩
mutual
theorem K.rel_mono {φ av:bJ} {ι aH:Nat->az} {w ao:bh} (aP: ∀b k,φ b k->av b k) (aw: ∀b k,φ b k->ao.cell? ⟨b,k,none⟩=w.cell? ⟨b,k,none⟩):
  ∀(r:K) (v:az),(∀i∈r.ids,aH i=ι i)->r.rel φ ι w v->r.rel av aH ao v
 | .undef,_,_,_=>trivial
 | .dat t x,v,_,h=>cA.mono aP aw h
 | .clip t xs,v,_,⟨A,n,e,h⟩=>⟨A,n,e,bt.mono aP aw _ _ _ h⟩
 | .nilv,_,_,h=>h
 | .nils _ _,_,_,h=>h
 | .own t o,v,u,h=>by simp only[K.rel]at h ⊢;rw[u o (by simp[K.ids])];exact h
 | .view t o aM dH,v,u,h=>by simp only[K.rel]at h ⊢;rw[u o (by simp[K.ids])];exact h
 | .ptr o t i p,v,u,h=>by simp only[K.rel]at h ⊢;rw[u o (by simp[K.ids])];exact h
 | .fptr t x,v,_,⟨b,o,cs,e,s,E⟩=>⟨b,o,cs,e,s.mono aP aw,bt.mono aP aw _ _ _ E⟩
 | .agg l,v,u,⟨cs,e,h⟩=>⟨cs,e,K.relL_mono aP aw l _ (λi h=>u i (by simpa [K.ids] using h)) h⟩
 | .tup l,v,u,⟨cs,e,h⟩=>⟨cs,e,K.relT_mono aP aw l _ (λi h=>u i (by simpa [K.ids] using h)) h⟩
 | .fn f a b,v,u,⟨x,y,e,s,E⟩=>⟨x,y,e,K.relT_mono aP aw a _ (λi h=>u i (by simp[K.ids,h])) s,K.relT_mono aP aw b _ (λi h=>u i (by simp[K.ids,h])) E⟩
 | .iface T r,v,u,⟨ad,e,h⟩=>⟨ad,e,K.rel_mono aP aw r ad (λi h=>u i (by simpa [K.ids] using h)) h⟩
 | .nilI,_,_,h=>h
 | .nilF,_,_,h=>h
 | .nilP,_,_,h=>h
 | .atl _,_,_,h=>h
 | .lim t xs c,v,_,⟨A,n,e,h⟩=>⟨A,n,e,bt.mono aP aw _ _ _ h⟩
 | .yld Y o,v,u,h=>by simp only[K.rel]at h ⊢;rw[u o (by simp[K.ids])];exact h
 | .gp b off l,v,_,⟨e,h⟩=>⟨e,h.mono aP aw⟩
 | .dfr f a b t xs,v,u,⟨aO,e,ab,h⟩=>⟨aO,e,ab,λi x ad ai hu=>
   let ⟨a7,lE,aX,L,s,⟨fj,o,cs,aa,E,O⟩,aC⟩:=h i x ad ai hu
   ⟨a7,lE,aX,L,K.relT_mono aP aw a _ (λi h=>u i (by simp[K.ids,h])) s,⟨fj,o,cs,aa,E.mono aP aw,bt.mono aP aw _ _ _ O⟩,K.relT_mono aP aw b _ (λi h=>u i (by simp[K.ids,h])) aC⟩⟩
theorem K.relL_mono {φ av:bJ} {ι aH:Nat->az} {w ao:bh} (aP: ∀b k,φ b k->av b k) (aw: ∀b k,φ b k->ao.cell? ⟨b,k,none⟩=w.cell? ⟨b,k,none⟩):
  ∀(l:List K) (cs:List az),(∀i∈K.idsL l,aH i=ι i)->K.relL φ ι w l cs->K.relL av aH ao l cs
 |[],_,_,h=>h
 |r::l,_,u,⟨v,aX,e,s,E⟩=>⟨v,aX,e,K.rel_mono aP aw r v (λi h=>u i (by simp[K.idsL,h])) s,K.relL_mono aP aw l aX (λi h=>u i (by simp[K.idsL,h])) E⟩
theorem K.relT_mono {φ av:bJ} {ι aH:Nat->az} {w ao:bh} (aP: ∀b k,φ b k->av b k) (aw: ∀b k,φ b k->ao.cell? ⟨b,k,none⟩=w.cell? ⟨b,k,none⟩):
  ∀(l:List K) (aO:List az),(∀i∈K.idsL l,aH i=ι i)->K.relT φ ι w l aO->K.relT av aH ao l aO
 |[],_,_,h=>h
 |r::l,_,u,⟨v,aX,e,s,E⟩=>⟨v,aX,e,K.rel_mono aP aw r v (λi h=>u i (by simp[K.idsL,h])) s,K.relT_mono aP aw l aX (λi h=>u i (by simp[K.idsL,h])) E⟩
end
theorem K.rel_step {φ:bJ} {ι:Nat->az} {w:bh} {H:List aF} {av:bJ} {aH:Nat->az} {ao:bh} {aA:List aF} {r:K} {v:az}
  (d:Step φ ι w H av aH ao aA) (k:ej ι H aH aA) (ab: ∀i∈r.ids,(aE H i).live=true) (h:r.rel φ ι w v):r.rel av aH ao v:=
 K.rel_mono d.phi d.cells r v (λi u=>k.iota i (ab i u)) h
open Go.RowKit
theorem DT.val_bind {α β:Type} (x:DT α) (f:α->DT β):(x.bind f).val=x.val.bind λa=>(f a).val:=by
 induction x with
 |leaf a=>rfl
 |fail=>rfl
 |br b x y jj jk=>simp only[DT.bind,DT.val,jj,jk];cases b<;>rfl
 |opt o k aQ=>cases o with
  |none=>rfl
  |some r=>simp only[DT.bind,DT.val];exact aQ r
 |alt o k h pr RR=>cases o with
  |none=>rfl
  |some r=>cases r with
   |inl r=>simp only[DT.bind,DT.val];exact pr r
   |inr r=>simp only[DT.bind,DT.val];exact RR r
theorem DT.val_bind_some {α β:Type} {x:DT α} {f:α->DT β} {b:β} (h:(x.bind f).val=some b): ∃a,x.val=some a/\(f a).val=some b:=by rw[DT.val_bind]at h;exact Option.bind_eq_some_iff.1 h
theorem DT.val_ofOpt {α:Type} (o:Option α):(DT.ofOpt o).val=o:=by cases o<;>rfl
namespace HM
variable {α β:Type}
def go:HM α->List aF->Nat->Option (α×List aF×Nat)
 |ret a,h,n=>some (a,h,n)
 |fail,_,_=>none
 |br b x y,h,n=>bif b then x.go h n else y.go h n
 |opt o k,h,n=>match o with |some r=>(k r).go h n |none=>none
 |alt o k l,h,n=>match o with |some (.inl r)=>(k r).go h n |some (.inr r)=>(l r).go h n |none=>none
 |rdc o k,h,n=>(k (aE h o).mask).go h n
 |frz o k,h,n=>k.go (bY h o (aE h o).freeze) n
 |rdw o k,h,n=>(k (aE h o)).go h n
 |wr o b k,h,n=>k.go (bY h o b) n
 |nw b k,h,n=>(k n).go (bY h n b) (n+1)
 |nxt k,h,n=>(k n).go h n
theorem go_run (x:HM α): ∀(h:List aF) (n:Nat) (p:dj) (a:α) (cu:List aF) (aI:Nat) (hf:dj),(x.run h n p).val=some (a,cu,aI,hf)->x.go h n=some (a,cu,aI):=by
 induction x with
 |ret a=>intro h n p a cu aI hf e;simp only[run,DT.val,bH,cV]at e;obtain ⟨rfl,rfl,rfl,_⟩:=e;rfl
 |fail=>intro h n p a cu aI hf e;simp[run,DT.val]at e
 |br b x y jj jk=>
  intro h n p a cu aI hf e;simp only[run,DT.val]at e;cases b
  ·exact jk _ _ _ _ _ _ _ e
  ·exact jj _ _ _ _ _ _ _ e
 |opt o k aQ=>
  intro h n p a cu aI hf e;cases o with
  |none=>simp[run,DT.val]at e
  |some r=>exact aQ r _ _ _ _ _ _ _ e
 |alt o k l pr vu=>
  intro h n p a cu aI hf e;cases o with
  |none=>simp[run,DT.val]at e
  |some r=>cases r with
   |inl r=>exact pr r _ _ _ _ _ _ _ e
   |inr r=>exact vu r _ _ _ _ _ _ _ e
 |rdc o k aQ=>intro h n p a cu aI hf e;exact aQ _ _ _ _ _ _ _ _ e
 |frz o k aQ=>intro h n p a cu aI hf e;exact aQ _ _ _ _ _ _ _ e
 |rdw o k aQ=>intro h n p a cu aI hf e;exact aQ _ _ _ _ _ _ _ _ e
 |wr o b k aQ=>intro h n p a cu aI hf e;exact aQ _ _ _ _ _ _ _ e
 |nw b k aQ=>intro h n p a cu aI hf e;exact aQ _ _ _ _ _ _ _ _ e
 |nxt k aQ=>intro h n p a cu aI hf e;exact aQ _ _ _ _ _ _ _ _ e
theorem go_bind (x:HM α) (f:α->HM β): ∀(h:List aF) (n:Nat),(x.bind f).go h n=(x.go h n).bind λq=>(f q.1).go q.2.1 q.2.2:=by
 induction x with
 |ret a=>intro h n;rfl
 |fail=>intro h n;rfl
 |br b x y jj jk=>intro h n;simp only[bind,go,jj,jk];cases b<;>rfl
 |opt o k aQ=>intro h n;cases o with
  |none=>rfl
  |some r=>exact aQ r h n
 |alt o k l pr vu=>intro h n;cases o with
  |none=>rfl
  |some r=>cases r with
   |inl r=>exact pr r h n
   |inr r=>exact vu r h n
 |rdc o k aQ=>intro h n;exact aQ _ h n
 |frz o k aQ=>intro h n;exact aQ _ n
 |rdw o k aQ=>intro h n;exact aQ _ h n
 |wr o b k aQ=>intro h n;exact aQ _ n
 |nw b k aQ=>intro h n;exact aQ _ _ _
 |nxt k aQ=>intro h n;exact aQ _ h n
theorem go_bind_some {x:HM α} {f:α->HM β} {h:List aF} {n:Nat} {r:β×List aF×Nat} (e:(x.bind f).go h n=some r): ∃a s c8,x.go h n=some (a,s,c8)/\(f a).go s c8=some r:=by rw[go_bind]at e;obtain ⟨q,aD,au⟩:=Option.bind_eq_some_iff.1 e;exact ⟨q.1,q.2.1,q.2.2,aD,au⟩
theorem go_ofOpt (o:Option α) (h:List aF) (n:Nat):(ofOpt o).go h n=o.map λa=>(a,h,n):=by cases o<;>rfl
theorem go_ofDT (x:DT α) (h:List aF) (n:Nat):(ofDT x).go h n=x.val.map λa=>(a,h,n):=by
 induction x with
 |leaf a=>rfl
 |fail=>rfl
 |br b x y jj jk=>simp only[ofDT,go,DT.val,jj,jk];cases b<;>rfl
 |opt o k aQ=>cases o with
  |none=>rfl
  |some r=>exact aQ r
 |alt o k h pr RR=>cases o with
  |none=>rfl
  |some r=>cases r with
   |inl r=>exact pr r
   |inr r=>exact RR r
theorem go_chk {b:Bool} {x:HM α} {h:List aF} {n:Nat} {r:α×List aF×Nat} (e:(chk b x).go h n=some r):b=true/\x.go h n=some r:=by
 cases b
 ·simp[chk,go]at e
 ·exact ⟨rfl,e⟩
end HM
theorem gA (H:List aF) (o:Nat) (b:aF) (i:Nat) (W:o<=H.length):aE (bY H o b) i=if i=o then b else aE H i:=by
 unfold aE
 induction H generalizing o i with
 |nil=>
  have:o=0:=by simpa using W
  subst this;cases i with
  |zero=>rfl
  |succ i=>simp[bY]
 |cons a l aQ=>
  cases o with
  |zero=>cases i<;>simp[bY]
  |succ o=>
   cases i with
   |zero=>simp[bY]
   |succ i=>
    have:=aQ o i (by simpa using W);simpa [bY] using this
theorem ie (H:List aF) (o:Nat) (b:aF) (W:o<H.length):(bY H o b).length=H.length:=by
 induction H generalizing o with
 |nil=>simp at W
 |cons a l aQ=>cases o with
  |zero=>rfl
  |succ o=>simpa [bY] using aQ o (by simpa using W)
theorem tA (H:List aF) (b:aF):(bY H H.length b).length=H.length+1:=by
 induction H with
 |nil=>rfl
 |cons a l aQ=>simpa [bY] using aQ
theorem gB {H:List aF} {o:Nat} (h:(aE H o).live=true):o<H.length:=by
 rcases Nat.lt_or_ge o H.length with s |s
 ·exact s
 ·simp[aE,jH,List.getElem?_eq_none s,aF.live]at h
theorem bO.mem_ids {R:bO} {q:Nat×K} (h:q∈R): ∀i∈q.2.ids,i∈R.ids:=by
 induction R with
 |nil=>cases h
 |cons p l aQ=>
  intro i u;simp only[bO.ids,dk];rcases eO.1 h with rfl |h
  ·exact .inl u
  ·exact .inr (aQ h i u)
theorem bO.ids_mem {R:bO} {i:Nat} (h:i∈R.ids): ∃q∈R,i∈q.2.ids:=by
 induction R with
 |nil=>simp[bO.ids]at h
 |cons p l aQ=>
  simp only[bO.ids,dk]at h;rcases h with h |h
  ·exact ⟨p,by simp,h⟩
  ·obtain ⟨q,s,E⟩:=aQ h;exact ⟨q,by simp[s],E⟩
theorem jt.keep [Env] {φ av:bJ} {ι aH:Nat->az} {w ao:bh} {o:Nat} {dd:aF} (aP: ∀b k,φ b k->av b k) (aw: ∀b k,φ b k->ao.cell? ⟨b,k,none⟩=w.cell? ⟨b,k,none⟩)
  (u:dd.live=true->aH o=ι o) (fk: ∀i∈dd.ids,aH i=ι i) (J: ∀b,dd.owns=true->dG (ι o)=some b->ao.heap[b]? =w.heap[b]? /\ ∀k,av b k->φ b k) (h:jt φ ι w o dd):jt av aH ao o dd:=by
 cases dd with
 |hole=>trivial
 |gone=>trivial
 |arr e t xs fz=>
  obtain ⟨A,n,c,L,aa,a1,bq,h⟩:=h;refine ⟨A,n,c,(u rfl).trans L,aa,a1,bq,?_⟩;rcases h with h |⟨b,pre,cur,c0,rfl,s,E,O,b8,aC,ba,bF,dN⟩
  ·exact .inl h
  ·by_cases ha:c=0
   ·exact .inl ha
   ·obtain ⟨bC,vm⟩:=J b rfl (by rw[L];simp[dG,ha]);exact .inr ⟨b,pre,cur,c0,rfl,bC.trans s,E,O,b8,aC.mono aP aw,ba.imp λx c=>bt.mono aP aw t x c,λk af=>bF k (vm k af),λbI k af=>aP _ _ (dN bI k af)⟩
 |box T t r=>
  obtain ⟨b,cur,c0,v,L,s,E,O,aC,ba,bF,dN,ig⟩:=h;obtain ⟨bC,vm⟩:=J b rfl (by rw[L];rfl);exact ⟨b,cur,c0,v,(u rfl).trans L,bC.trans s,E,O,aC,K.rel_mono aP aw r v fk ba,bF,dN,λk af=>ig k (vm k af)⟩
 |iter d pos=>
  obtain ⟨b,n,L,s,E,O⟩:=h;obtain ⟨bC,vm⟩:=J b rfl (by rw[L];rfl);exact ⟨b,n,(u rfl).trans L,bC.trans s,E,λk af=>O k (vm k af)⟩
 |loop Y R p=>
  obtain ⟨l,rec,c,L,s⟩:=h;obtain ⟨bC,vm⟩:=J l rfl (by rw[L];rfl);exact ⟨l,rec,c,(u rfl).trans L,⟨s.code,bC.trans s.heap,s.params,s.assign,s.body,s.nt,s.st,λq aD=>K.rel_mono aP aw q.2 _ (λi u=>fk i (bO.mem_ids aD i u)) (s.regs q aD),λk af=>s.phi k (vm k af)⟩⟩
theorem jt.blk_arr [Env] {φ:bJ} {ι:Nat->az} {w:bh} {o:Nat} {e:bm} {t:aB} {xs:List t.den} {fz:Bool} (h:jt φ ι w o (.arr e t xs fz)) {b:Nat} (J:dG (ι o)=some b):
  ∃n c pre cur c0,ι o=.slice (some ⟨b,pre.size,none⟩) n c/\xs.length=n/\n<=c/\c<=maxLen/\c≠0/\w.heap[b]? =some (.cells (pre++cur) e c0)/\cur.size=c*t.size/\xQ t c0 (pre.size+cur.size)/\(∀v∈pre.toList,v.oneCell'=true)/\Cells φ w t n cur/\
    cY (bt φ w t) xs (cur.toList.take (n*t.size))/\(∀k,φ b k->fz=true/\pre.size<=k/\k<pre.size+n*t.size)/\(fz=true-> ∀k,k<n*t.size->φ b (pre.size+k)):=by
 obtain ⟨A,n,c,L,aa,a1,bq,h⟩:=h;rw[L]at J;rcases h with h |⟨bQ,pre,cur,c0,rfl,h⟩
 ·subst h;cases A<;>simp[dG]at J
 ·by_cases ha:c=0
  ·subst ha;simp[dG]at J
  ·have:bQ=b:=by simpa [dG,ha] using J
   subst this;exact ⟨n,c,pre,cur,c0,L,aa,a1,bq,ha,h⟩
structure e2 [Env] (φ:bJ) (ι:Nat->az) (w:bh) (H:List aF) (av:bJ) (aA:List aF):Prop where
 rel:cc av ι w aA
 step:Step φ ι w H av ι w aA
 live: ∀o,(aE aA o).live=(aE H o).live
 len:aA.length=H.length
theorem e2.refl [Env] {φ:bJ} {ι:Nat->az} {w:bh} {H:List aF} (h:cc φ ι w H):e2 φ ι w H φ H:=⟨h,Step.refl _ _ _ _,λ_=>rfl,rfl⟩
theorem e2.keep [Env] {φ:bJ} {ι:Nat->az} {w:bh} {H:List aF} {av:bJ} {aA:List aF} (g:e2 φ ι w H av aA):ej ι H ι aA:=⟨λ_ _=>rfl,λo h=>(g.live o).trans h⟩
theorem e2.trans [Env] {φ:bJ} {ι:Nat->az} {w:bh} {H:List aF} {av:bJ} {aA:List aF} {Ep:bJ} {mC:List aF} (g:e2 φ ι w H av aA) (k:e2 av ι w aA Ep mC):e2 φ ι w H Ep mC:=
 ⟨k.rel,g.step.trans k.step,λo=>(k.live o).trans (g.live o),k.len.trans g.len⟩
theorem apK (b:aF):b.freeze.live=b.live:=by cases b<;>rfl
theorem apL (b:aF):b.freeze.owns=b.owns:=by cases b<;>rfl
theorem MA [Env] {φ:bJ} {ι:Nat->az} {w:bh} {H:List aF} (h:cc φ ι w H) (o:Nat) (W:o<H.length):
  ∃av,e2 φ ι w H av (bY H o (aE H o).freeze)/\(∀e t xs fz,aE H o=.arr e t xs fz-> ∀b k,dG (ι o)=some b->k<xs.length*t.size->av b (su (ι o)+k)):=by
 have bx: ∀i,aE (bY H o (aE H o).freeze) i=if i=o then (aE H o).freeze else aE H i:=λi=>gA H o _ i (Nat.le_of_lt W)
 by_cases hQ: ∃e t xs fz,aE H o=.arr e t xs fz
 ·obtain ⟨e,t,xs,fz,aS⟩:=hQ;have ch:=h.obj o;rw[aS]at ch
  let av:bJ:=λb k=>φ b k\/(dG (ι o)=some b/\su (ι o)<=k/\k<su (ι o)+xs.length*t.size)
  have aP: ∀b k,φ b k->av b k:=λb k J=>.inl J
  have mY: ∀i,(aE (bY H o (aE H o).freeze) i).owns=(aE H i).owns:=λi=>by
   rw[bx];split
   ·rename_i u;subst u;exact apL _
   ·rfl
  have e9: ∀i,(aE (bY H o (aE H o).freeze) i).live=(aE H i).live:=λi=>by
   rw[bx];split
   ·rename_i u;subst u;exact apK _
   ·rfl
  have oy: ∀b,jT ι (bY H o (aE H o).freeze) b↔jT ι H b:=λb=>by simp only[jT,mY]
  refine ⟨av,⟨⟨?_,?_,?_,?_,λg=>(h.glob g).mono aP (λ_ _ _=>rfl)⟩,⟨aP,λ_ _ _=>rfl,?_,b7 _,rfl,rfl,rfl,λ_ _ _=>rfl,λb J=>.inr ((oy b).1 J)⟩,e9,ie H o _ W⟩,?_⟩
  ·intro i;rw[bx];split
   ·rename_i u;subst u;rw[aS];obtain ⟨A,n,c,L,aa,a1,bq,bC⟩:=ch;refine ⟨A,n,c,L,aa,a1,bq,?_⟩;rcases bC with bC |⟨b,pre,cur,c0,rfl,s,E,O,b8,aC,ba,bF,dN⟩
    ·exact .inl bC
    ·by_cases ha:c=0
     ·exact .inl ha
     ·have jK:dG (ι i)=some b:=by rw[L];simp[dG,ha]
      have xT:su (ι i)=pre.size:=by rw[L];rfl
      refine .inr ⟨b,pre,cur,c0,rfl,s,E,O,b8,aC.mono aP (λ_ _ _=>rfl),ba.imp λx c=>bt.mono aP (λ_ _ _=>rfl) t x c,?_,?_⟩
      ·rintro k (af |⟨j5,jM⟩)
       ·exact ⟨rfl,(bF k af).2⟩
       ·rw[xT,aa]at jM;exact ⟨rfl,jM⟩
      ·exact λ_ k af=>.inr ⟨jK,by rw[xT,aa];omega⟩
   ·rename_i u;refine (h.obj i).keep aP (λ_ _ _=>rfl) (λ_=>rfl) (λ_ _=>rfl) λb iy J=>⟨rfl,λk af=> ?_⟩
    rcases af with af |⟨af,_⟩
    ·exact af
    ·exact absurd (h.apart i o b iy (by rw[aS];rfl) J af) u
  ·intro i j b u an s E;rw[mY]at u an;exact h.apart i j b u an s E
  ·rintro b k (af |⟨j5,jM⟩)
   ·exact h.phi b k af
   ·obtain ⟨n,c,pre,cur,c0,L,aa,a1,bq,ha,s,E,_⟩:=ch.blk_arr j5;have xT:su (ι o)=pre.size:=by rw[L];rfl
    have hmul:n*t.size<=c*t.size:=gW _ a1;rw[xT,aa]at jM;have bd:k<(pre++cur).size:=by rw[Array.size_append,E];omega
    exact ⟨(pre++cur)[k],by simp[World.cell?,s,Array.getElem?_eq_getElem bd]⟩
  ·intro i j an;rw[bx]at an;rw[e9];split at an
   ·rw[aS]at an;simp[aF.freeze,aF.ids]at an
   ·exact h.ids i j an
  ·rintro b k (af |⟨j5,_⟩)
   ·exact .inl af
   ·exact .inr (.inr ⟨o,by rw[aS];rfl,j5⟩)
  ·intro eg iB hn kF adF b k J af;rw[aS]at adF;cases adF;exact .inr ⟨J,Nat.le_add_right _ _,Nat.add_lt_add_left af _⟩
 ·have adW:(aE H o).freeze=aE H o:=by
   cases dv:aE H o with
   |arr e t xs fz=>exact absurd ⟨e,t,xs,fz,dv⟩ hQ
   |_=>rfl
  have CF: ∀i,aE (bY H o (aE H o).freeze) i=aE H i:=λi=>by
   rw[bx,adW];split
   ·rename_i u;subst u;rfl
   ·rfl
  refine ⟨φ,⟨⟨λi=> ?_,λi j b u an=> ?_,h.phi,λi j an=> ?_,h.glob⟩,⟨λ_ _ h=>h,λ_ _ _=>rfl,λ_ _ h=>.inl h,b7 _,rfl,rfl,rfl,λ_ _ _=>rfl,λb J=>.inr ?_⟩,λi=>by rw[CF],ie H o _ W⟩,λe t xs fz aS=>absurd ⟨e,t,xs,fz,aS⟩ hQ⟩
  ·rw[CF];exact h.obj i
  ·rw[CF]at u an;exact h.apart i j b u an
  ·rw[CF]at an ⊢;exact h.ids i j an
  ·obtain ⟨i,s,E⟩:=J;rw[CF]at s;exact ⟨i,s,E⟩
open Go.RowKit
theorem hv (b o k:Nat):(⟨b,o,none⟩:Addr).add k=⟨b,o+k,none⟩:=by unfold Addr.add;split<;>simp_all
theorem rJ {t ad:aB} {x:t.den} {y:ad.den} (h:t.cast? ad x=some y): ∃e:t=ad,y=e▸x:=by
 unfold aB.cast? at h;split at h
 ·rename_i e;exact ⟨e,by simpa using h.symm⟩
 ·cases h
theorem oK {b:aF} {e:bm} {t:aB} {xs:List t.den} {fz:Bool} (h:b.mask=.arr e t xs fz): ∃kF,b=.arr e t xs kF/\fz=false:=by cases b<;>simp[aF.mask]at h;obtain ⟨rfl,rfl,O,aC⟩:=h;obtain rfl:=eq_of_heq O;exact ⟨_,rfl,aC⟩
theorem aii {b:aF} {T:bm} {t:aB} {r:K} (h:b.mask=.box T t r):b=.box T t r:=by cases b<;>simp[aF.mask]at h;obtain ⟨rfl,rfl,rfl⟩:=h;rfl
theorem qg {w:bh} {b k:Nat} {cur:Array az} {e:bm} {c0:Nat×Nat} (h:w.heap[b]? =some (.cells cur e c0)):w.cell? ⟨b,k,none⟩=cur[k]? :=by simp[World.cell?,h]
theorem acQ [Env] {φ:bJ} {ι:Nat->az} {w:bh} {o:Nat} {e:bm} {t:aB} {xs:List t.den} {fz:Bool} (h:jt φ ι w o (.arr e t xs fz))
  (kq: ∀b k,dG (ι o)=some b->k<xs.length*t.size->φ b (su (ι o)+k)) {A dg:Option Addr} {n c aM u:Nat} (aZ:ι o=.slice A n c) (s:aM<=u) (E:u<=n) (eU:c≠aM->dg=A.map (·.add (aM*t.size))):
  bt φ w (.list t) ((xs.take u).drop aM) [.slice dg (u-aM) (c-aM)]:=by
 obtain ⟨jr,aI,eu,L,aa,a1,bq,bC⟩:=h;rw[aZ]at L;injection L with L gC Pw
 subst L gC Pw;refine ⟨_,_,_,rfl,by simp[aa];omega,by omega,?_⟩;by_cases bI:u-aM=0
 ·exact .inl bI
 ·refine .inr ?_;have aw:c≠aM:=by omega
  rcases bC with bC |⟨b,pre,cur,c0,rfl,g1,g2,g3,g0,g4,g5,g6,g7⟩
  ·omega
  ·have jK:dG (ι o)=some b:=by rw[aZ];simp[dG];omega
   have xT:su (ι o)=pre.size:=by rw[aZ];rfl
   have hle:u*t.size<=n*t.size:=gW _ E;refine ⟨b,pre.size+aM*t.size,(cur.toList.take (u*t.size)).drop (aM*t.size),by rw[eU aw];simp[hv],?_,?_⟩
   ·intro i v dH;rw[List.getElem?_drop,List.getElem?_take]at dH;split at dH
    ·rename_i bd;refine ⟨by rw[Nat.add_assoc,<-xT];exact kq b _ jK (by rw[aa];omega),?_⟩;rw[qg g1,Array.getElem?_append_right (by omega)];rw[show pre.size+aM*t.size+i-pre.size=aM*t.size+i by omega];simpa using dH
    ·cases dH
   ·have:=(g5.take (λx c=>bt.len t x c) u).drop (λx c=>bt.len t x c) aM
    rwa [List.take_take,Nat.min_eq_left hle]at this
mutual
theorem tt [Env] {ι:Nat->az} {w:bh}: ∀(r:K) (φ:bJ) (v:az) (H:List aF) (n:Nat) (I:eD) (aA:List aF) (aI:Nat),(hc r).go H n=some (I,aA,aI)->cc φ ι w H->r.rel φ ι w v->
  (∀i∈r.ids,(aE H i).live=true)->aI=n/\ ∃av,e2 φ ι w H av aA/\cA av w I.t I.x v
 | .dat t x,φ,v,H,n,I,aA,aI,e,h,au,ab=>by simp only[hc,HM.go,bH,cV]at e;obtain ⟨rfl,rfl,rfl⟩:=e;exact ⟨rfl,φ,e2.refl h,au⟩
 | .clip t xs,φ,v,H,n,I,aA,aI,e,h,au,ab=>by simp only[hc,HM.go,bH,cV]at e;obtain ⟨rfl,rfl,rfl⟩:=e;obtain ⟨A,m,rfl,aw⟩:=au;exact ⟨rfl,φ,e2.refl h,aw,rfl⟩
 | .lim t xs c,φ,v,H,n,I,aA,aI,e,h,au,ab=>by simp only[hc,HM.go,bH,cV]at e;obtain ⟨rfl,rfl,rfl⟩:=e;obtain ⟨A,m,rfl,aw⟩:=au;exact ⟨rfl,φ,e2.refl h,aw,rfl⟩
 | .nils _ t,φ,v,H,n,I,aA,aI,e,h,au,ab=>by simp only[hc,HM.go,bH,cV]at e;obtain ⟨rfl,rfl,rfl⟩:=e;simp only[K.rel]at au;subst au;exact ⟨rfl,φ,e2.refl h,⟨_,_,_,rfl,rfl,b7 _,.inl rfl⟩,rfl⟩
 | .own t o,φ,v,H,n,I,aA,aI,e,h,au,ab=>by
  have W:=gB (ab o (by simp[K.ids]));obtain ⟨av,g,kq⟩:=MA h o W;simp only[hc,HM.go]at e;rw[gA H o _ o (Nat.le_of_lt W),if_pos rfl]at e;split at e
  ·rename_i b6 ad xs fz hm;obtain ⟨kF,aL,rfl⟩:=oK hm;split at e
   ·rename_i aW bo;obtain ⟨oj,rfl⟩:=rJ bo;injection oj with oj
    subst oj;simp only[HM.go,bH,cV]at e;obtain ⟨rfl,rfl,rfl⟩:=e;obtain ⟨B5,aS⟩: ∃B5,aE H o=.arr b6 ad xs B5:=by cases dv:aE H o<;>rw[dv]at aL<;>simp[aF.freeze]at aL;obtain ⟨rfl,rfl,O,aC⟩:=aL;obtain rfl:=eq_of_heq O;exact ⟨_,rfl⟩
    have iy:=g.rel.obj o;rw[gA H o _ o (Nat.le_of_lt W),if_pos rfl,aL]at iy;obtain ⟨rfl,A,m,c,aZ⟩:=au;have aw:=acQ iy (λb k J af=>kq _ _ _ _ aS b k J af) (dg:=A) aZ (Nat.zero_le m) (b7 m) (λ_=>by cases A<;>simp[Addr.add]);obtain ⟨dg,Sg,eu,L,aa,_⟩:=iy;rw[aZ]at L;injection L with L gC Pw
    subst L gC Pw;refine ⟨rfl,av,g,?_,by rw[aZ];rfl⟩;rw[aZ];show bt av w (.list ad) xs [.slice A m c];simpa [<-aa] using aw
   ·simp[HM.go]at e
  ·simp[HM.go]at e
 | .view t o aM u,φ,v,H,n,I,aA,aI,e,h,au,ab=>by
  have W:=gB (ab o (by simp[K.ids]));obtain ⟨av,g,kq⟩:=MA h o W;simp only[hc,HM.go]at e;rw[gA H o _ o (Nat.le_of_lt W),if_pos rfl]at e;split at e
  ·rename_i b6 ad xs fz hm;obtain ⟨kF,aL,rfl⟩:=oK hm;split at e
   ·rename_i aW bo;obtain ⟨oj,rfl⟩:=rJ bo;injection oj with oj
    subst oj;simp only[HM.go,bH,cV]at e;obtain ⟨rfl,rfl,rfl⟩:=e;obtain ⟨B5,aS⟩: ∃B5,aE H o=.arr b6 ad xs B5:=by cases dv:aE H o<;>rw[dv]at aL<;>simp[aF.freeze]at aL;obtain ⟨rfl,rfl,O,aC⟩:=aL;obtain rfl:=eq_of_heq O;exact ⟨_,rfl⟩
    have iy:=g.rel.obj o;rw[gA H o _ o (Nat.le_of_lt W),if_pos rfl,aL]at iy;obtain ⟨A,m,c,dg,aZ,s,E,O,rfl,eU,_⟩:=au;exact ⟨rfl,av,g,acQ iy (λb k J af=>kq _ _ _ _ aS b k J af) aZ s E eU,rfl⟩
   ·simp[HM.go]at e
  ·simp[HM.go]at e
 | .agg l,φ,v,H,n,I,aA,aI,e,h,au,ab=>by obtain ⟨cs,rfl,au⟩:=au;obtain ⟨aR,av,g,aw,aS⟩:=ZW l φ cs.toList H n I aA aI e h au (λi u=>ab i (by simpa [K.ids] using u));exact ⟨aR,av,g,aw,aS.symm⟩
 | .undef,_,_,_,_,_,_,_,e,_,_,_=>by simp[hc,HM.go]at e
 | .nilv,_,_,_,_,_,_,_,e,_,_,_=>by simp[hc,HM.go]at e
 | .ptr ..,_,_,_,_,_,_,_,e,_,_,_=>by simp[hc,HM.go]at e
 | .fptr ..,_,_,_,_,_,_,_,e,_,_,_=>by simp[hc,HM.go]at e
 | .tup _,_,_,_,_,_,_,_,e,_,_,_=>by simp[hc,HM.go]at e
 | .fn ..,_,_,_,_,_,_,_,e,_,_,_=>by simp[hc,HM.go]at e
 | .iface ..,_,_,_,_,_,_,_,e,_,_,_=>by simp[hc,HM.go]at e
 | .nilI,_,_,_,_,_,_,_,e,_,_,_=>by simp[hc,HM.go]at e
 | .nilF,_,_,_,_,_,_,_,e,_,_,_=>by simp[hc,HM.go]at e
 | .nilP,_,_,_,_,_,_,_,e,_,_,_=>by simp[hc,HM.go]at e
 | .atl _,_,_,_,_,_,_,_,e,_,_,_=>by simp[hc,HM.go]at e
theorem ZW [Env] {ι:Nat->az} {w:bh}: ∀(l:List K) (φ:bJ) (cs:List az) (H:List aF) (n:Nat) (I:eD) (aA:List aF) (aI:Nat),(uQ l).go H n=some (I,aA,aI)->cc φ ι w H->K.relL φ ι w l cs->
  (∀i∈K.idsL l,(aE H i).live=true)->aI=n/\ ∃av,e2 φ ι w H av aA/\bt av w I.t I.x cs/\I.t.isAgg=true
 |[],φ,cs,H,n,I,aA,aI,e,h,au,ab=>by simp only[uQ,HM.go,bH,cV]at e;obtain ⟨rfl,rfl,rfl⟩:=e;exact ⟨rfl,φ,e2.refl h,au,rfl⟩
 |r::l,φ,cs,H,n,I,aA,aI,e,h,au,ab=>by
  obtain ⟨v,aX,rfl,s,E⟩:=au;simp only[uQ]at e;obtain ⟨d1,H1,c8,L,e⟩:=HM.go_bind_some e;obtain ⟨d2,e3,dP,aa,e⟩:=HM.go_bind_some e;simp only[HM.go,bH,cV]at e;obtain ⟨rfl,rfl,rfl⟩:=e;obtain ⟨rfl,dy,g1,aZ⟩:=tt r φ v H n d1 H1 c8 L h s (λi u=>ab i (by simp[K.idsL,u]));obtain ⟨rfl,ec,g2,aw,_⟩:=ZW l dy aX H1 c8 d2 e3 dP aa g1.rel
   (K.relL_mono g1.step.phi g1.step.cells l aX (λ_ _=>rfl) E) (λi u=>by rw[g1.live];exact ab i (by simp[K.idsL,u]))
  exact ⟨rfl,ec,g1.trans g2,⟨_,_,rfl,bt.mono g2.step.phi g2.step.cells _ _ _ aZ.1,aw⟩,rfl⟩
end
theorem Fv [Env] {ι:Nat->az} {w:bh} {t:aB} {r:K} {φ:bJ} {v:az} {H:List aF} {n:Nat} {x:t.den} {aA:List aF} {aI:Nat} (e:(xt t r).go H n=some (x,aA,aI)) (h:cc φ ι w H) (au:r.rel φ ι w v)
  (ab: ∀i∈r.ids,(aE H i).live=true):aI=n/\ ∃av,e2 φ ι w H av aA/\cA av w t x v:=by
 unfold xt at e;obtain ⟨I,H1,c8,L,e⟩:=HM.go_bind_some e;rw[HM.go_ofOpt]at e;obtain ⟨y,bo,e⟩:=h7.1 e;simp only[cV]at e;obtain ⟨rfl,rfl,rfl⟩:=e;obtain ⟨aR,av,g,aZ⟩:=tt r φ v H n I H1 c8 L h au ab;obtain ⟨I,x⟩:=I;obtain ⟨oj,rfl⟩:=rJ bo;simp only at oj;subst oj;exact ⟨aR,av,g,aZ⟩
open Go.RowKit
def sF (P:cq) (e:bm) (t:aB) (bytes:Nat):Prop:=
 ∃dB z,P.info? e=some dB/\dB.size=t.size/\dB.bytes=bytes/\0<bytes/\dB.zero=some z/\0<t.size/\z.cells.toList.length=t.size/\ ∀φ w,bt φ w t t.zero z.cells.toList
def nQ (P:cq) (cx:cd) (ty:aB) (f:Nat) (U:bm) (off:Nat):Prop:=
 off=ty.offs f/\ ∃j,cx.ti U=some j/\ty.nth f=some j.ty/\0<j.ty.size
def k6 (P:cq) (cx:cd) (T:bm) (i:gj):Prop:=match i.ty with
 | .bool=>P.underlying T=some .bool
 | .int k=>P.underlying T=some (.int k)
 | .str=>P.underlying T=some .string
 | .list t=>P.underlying T=some (.slice i.elem)/\sF P i.elem t i.bytes/\ ∃ad,cx.ti i.elem=some ad/\ad.ty=t
 | .opq=> ∃I,P.underlying T=some I/\ ∀(x:Nat) (e:bm) ct,I≠ .array x e/\I≠ .struct ct
 |ty=>(i.arr=false/\ ∃ct,P.underlying T=some (.struct ct)/\ct.size=i.fields.length/\ ∀(f:Nat) U,i.fields[f]? =some U-> ∃fd,ct[f]? =some fd/\fd.type=U/\nQ P cx ty f U fd.offset)\/
   (i.arr=true/\ ∃n e dB,P.underlying T=some (.array n e)/\i.fields.length=n/\P.info? e=some dB/\ ∀(f:Nat) U,i.fields[f]? =some U->U=e/\nQ P cx ty f U (f*dB.size))
def ada (P:cq) (T:bm) (t:aB):Prop:= ∀(φ:bJ) (w:bh) (x y:t.den) (cE gU:az) (nX pI:Operand),cA φ w t x cE->cA φ w t y gU->
 (do eqGuard .eql T nX pI cE gU;binOp .eql T cE gU:Sem az).run P w=.ok (.bool (t.eqb x y)) w/\
 (do eqGuard .neq T nX pI cE gU;binOp .neq T cE gU:Sem az).run P w=.ok (.bool (!(t.eqb x y))) w
def Se (P:cq) (T:bm) (nm:String) (f:Nat):Prop:= ∀(v:az) (w:bh),(method (P.types.size+Made.depth) T v nm).run P w=.ok (f,v) w
structure aka (P:cq) (cx:cd) (T:bm) (i:gj):Prop where
 info: ∃info,P.info? T=some info/\info.size=i.ty.size/\ ∀r,cx.zeroRV 20 T=some r-> ∃z,info.zero=some z/\z.cells.size=i.ty.size/\j8 z=i.ty.isAgg/\r.fits i.ty=true/\r.ids=[]/\ ∀φ ι w,r.rel φ ι w z
 desc:k6 P cx T i
 cmp:i.cmp=true->i.ty.cmp=true->i.ty.isAgg=true->ada P T i.ty
 iface:i.nil=true-> ∃ms,P.underlying T=some (.interface ms)
 meth: ∀nm f,vK i.meths nm=some f->Se P T nm f
def cQ (P:cq) (cx:cd):Prop:= ∀T i,cx.ti T=some i->aka P cx T i
theorem hK {cx:cd} {T:bm} {t:aB} (h:cx.isTy T t=true): ∃i,cx.ti T=some i/\i.ty=t:=by
 unfold cd.isTy at h;split at h
 ·rename_i i u;exact ⟨i,u,by simpa using h⟩
 ·cases h
theorem Gc {cx:cd} {T:bm} {t:Option aB} (h:cx.isTyO T t=true): ∃i,cx.ti T=some i/\t=some i.ty:=by
 unfold cd.isTyO at h;split at h
 ·rename_i t;obtain ⟨i,s,E⟩:=hK h;exact ⟨i,s,by rw[E]⟩
 ·cases h
section
variable {P:cq} {cx:cd} {T:bm} {i:gj} {w:bh}
theorem Em (tab:cQ P cx) (h:cx.ti T=some i):(sizeOf T).run P w=.ok i.ty.size w:=by obtain ⟨info,s,E,_⟩:=(tab T i h).info;simp[sizeOf,typeInfo,s,E]
theorem NS (tab:cQ P cx) (h:cx.ti T=some i):(isAgg T).run P w=.ok i.ty.isAgg w:=by
 have al:=(tab T i h).desc;unfold k6 at al;unfold isAgg;split at al
 ·rename_i e;simp[run_underlying al,e,aB.isAgg]
 ·rename_i e;simp[run_underlying al,e,aB.isAgg]
 ·rename_i e;simp[run_underlying al,e,aB.isAgg]
 ·rename_i e;simp[run_underlying al.1,e,aB.isAgg]
 ·rename_i e;obtain ⟨I,al,aR⟩:=al;rw[e];cases I with
  |array x y=>exact absurd rfl (aR x y #[]).1
  |struct ct=>exact absurd rfl (aR 0 0 ct).2
  |_=>simp[run_underlying al,aB.isAgg]
 ·rename_i ty s E O aC ba;have:i.ty.isAgg=true:=by
   cases ew:i.ty with
   |bool=>exact absurd ew s
   |int k=>exact absurd ew (E k)
   |str=>exact absurd ew O
   |list t=>exact absurd ew (aC t)
   |opq=>exact absurd ew ba
   |unit=>rfl
   |pair a b=>rfl
  rw[this];rcases al with ⟨_,ct,al,_⟩|⟨_,n,e,dB,al,_⟩<;>simp[run_underlying al]
end
theorem FZ {t ad:aB} {i:Nat} (h:t.nth i=some ad):t.offs i+ad.size<=t.size:=by
 induction t generalizing i with
 |pair a b CV vt=>
  cases i with
  |zero=>simp[aB.nth]at h;subst h;simp[aB.offs,aB.size]
  |succ i=>have:=vt (i:=i) (by simpa [aB.nth] using h);simp only[aB.offs,aB.size];omega
 |_=>cases i<;>simp[aB.nth]at h
theorem sb {t ad:aB} {p:List Nat} (h:t.at_ p=some ad):t.offAt p+ad.size<=t.size:=by
 induction p generalizing t with
 |nil=>simp[aB.at_]at h;subst h;simp[aB.offAt]
 |cons i p aQ=>
  simp only[aB.at_]at h;split at h
  ·rename_i e he;have s:=FZ he;have E:=aQ h;simp only[aB.offAt,he];omega
  ·cases h
theorem Ft {φ:bJ} {w:bh} {t:aB} {x:t.den} {cs:List az} {i:Nat} {I:eD} (h:bt φ w t x cs) (aP:t.proj x i=some I):t.nth i=some I.t/\bt φ w I.t I.x ((cs.drop (t.offs i)).take I.t.size):=by
 induction t generalizing i cs with
 |pair a b CV vt=>
  obtain ⟨a7,aX,rfl,s,E⟩:=h;cases i with
  |zero=>
   simp only[aB.proj,bH]at aP;subst aP;refine ⟨rfl,?_⟩;have:=bt.len a _ _ s;simp only[aB.offs,List.drop_zero];rw[<-this,List.take_left];exact s
  |succ i=>
   simp only[aB.proj]at aP;obtain ⟨g1,g2⟩:=vt E aP;refine ⟨g1,?_⟩;simp only[aB.offs];rw[<-bt.len a _ _ s,<-List.drop_drop,List.drop_left];exact g2
 |_=>cases i<;>simp[aB.proj]at aP
theorem arV {φ:bJ} {w:bh} {p:List Nat}: ∀{I e:eD} {cs:List az},bt φ w I.t I.x cs->I.at_ p=some e->I.t.at_ p=some e.t/\bt φ w e.t e.x ((cs.drop (I.t.offAt p)).take e.t.size):=by
 induction p with
 |nil=>
  intro I e cs h aP;simp only[eD.at_,bH]at aP;subst aP;refine ⟨rfl,?_⟩;simp only[aB.offAt,List.drop_zero];rw[<-bt.len _ _ _ h,eM];exact h
 |cons i p aQ=>
  intro I e cs h aP;simp only[eD.at_]at aP;split at aP
  ·rename_i f aL;obtain ⟨g1,g2⟩:=Ft h aL;obtain ⟨bb,aU⟩:=aQ g2 aP;refine ⟨by simp only[aB.at_,g1,bb],?_⟩;have hle:=sb bb;simp only[aB.offAt,g1];rw[List.drop_take,List.take_take,List.drop_drop,Nat.min_eq_left (by omega)]at aU;exact aU
  ·cases aP
mutual
theorem K.rel_fits {φ:bJ} {ι:Nat->az} {w:bh}: ∀(r:K) (t:aB) (v:az),r.rel φ ι w v->r.fits t=true->v.cells.size=t.size/\j8 v=t.isAgg
 | .dat ad x,t,v,h,aL=>by
  have e:ad=t:=by simpa [K.fits] using aL
  subst e;exact ⟨by rw[<-bt.len _ _ _ h.1];simp,h.2⟩
 | .nils _ ad,t,v,h,aL=>by
  have e:aB.list ad=t:=by simpa [K.fits] using aL
  subst e;simp only[K.rel]at h;subst h;exact ⟨rfl,rfl⟩
 | .own ad o,t,v,h,aL=>by
  have e:aB.list ad=t:=by simpa [K.fits] using aL
  subst e;obtain ⟨_,A,n,c,rfl⟩:=h;exact ⟨rfl,rfl⟩
 | .agg l,t,v,h,aL=>by obtain ⟨cs,rfl,h⟩:=h;obtain ⟨s,E⟩:=K.relL_fits l t cs.toList h (by simpa [K.fits] using aL);exact ⟨by simpa [Value.cells] using s,by rw[E];rfl⟩
 | .ptr o ad i p,t,v,h,aL=>by
  have e:t=.opq:=by simpa [K.fits] using aL
  subst e;obtain ⟨b,_,_,rfl,_⟩:=h;exact ⟨rfl,rfl⟩
 | .fptr ad x,t,v,h,aL=>by
  have e:t=.opq:=by simpa [K.fits] using aL
  subst e;obtain ⟨b,o,cs,rfl,_⟩:=h;exact ⟨rfl,rfl⟩
 | .fn f a b,t,v,h,aL=>by
  have e:t=.opq:=by simpa [K.fits] using aL
  subst e;obtain ⟨x,y,rfl,_⟩:=h;exact ⟨rfl,rfl⟩
 | .iface T r,t,v,h,aL=>by
  have e:t=.opq:=by simpa [K.fits] using aL
  subst e;obtain ⟨ad,rfl,_⟩:=h;exact ⟨rfl,rfl⟩
 | .nilI,t,v,h,aL=>by
  have e:t=.opq:=by simpa [K.fits] using aL
  subst e;simp only[K.rel]at h;subst h;exact ⟨rfl,rfl⟩
 | .nilF,t,v,h,aL=>by
  have e:t=.opq:=by simpa [K.fits] using aL
  subst e;simp only[K.rel]at h;subst h;exact ⟨rfl,rfl⟩
 | .nilP,t,v,h,aL=>by
  have e:t=.opq:=by simpa [K.fits] using aL
  subst e;simp only[K.rel]at h;subst h;exact ⟨rfl,rfl⟩
 | .undef,_,_,_,aL=>by simp[K.fits]at aL
 | .atl _,_,_,_,aL=>by simp[K.fits]at aL
 | .lim ..,_,_,_,aL=>by simp[K.fits]at aL
 | .yld Y o,t,v,h,aL=>by
  have e:t=.opq:=by simpa [K.fits] using aL
  subst e;obtain ⟨_,l,rfl⟩:=h;exact ⟨rfl,rfl⟩
 | .gp ..,_,_,_,aL=>by simp[K.fits]at aL
 | .dfr ..,_,_,_,aL=>by simp[K.fits]at aL
 | .clip ..,_,_,_,aL=>by simp[K.fits]at aL
 | .nilv,_,_,_,aL=>by simp[K.fits]at aL
 | .view ..,_,_,_,aL=>by simp[K.fits]at aL
 | .tup _,_,_,_,aL=>by simp[K.fits]at aL
theorem K.relL_fits {φ:bJ} {ι:Nat->az} {w:bh}: ∀(l:List K) (t:aB) (cs:List az),K.relL φ ι w l cs->K.fitsL l t=true->cs.length=t.size/\t.isAgg=true
 |[],t,cs,h,aL=>by
  have e:t=.unit:=by simpa [K.fitsL] using aL
  subst e;simp only[K.relL]at h;subst h;exact ⟨rfl,rfl⟩
 |r::l,t,cs,⟨v,aX,e,s,E⟩,aL=>by
  subst e;cases t with
  |pair a b=>
   simp only[K.fitsL,bN]at aL;have g1:=(K.rel_fits r a v s aL.1).1;have g2:=(K.relL_fits l b aX E aL.2).1;exact ⟨by simp[aB.size,g1,g2],rfl⟩
  |_=>simp[K.fitsL]at aL
end
open Go.RowKit
structure iP (H:List aF) (n:Nat) (aA:List aF) (aI:Nat):Prop where
 le:n<=aI
 len:H.length<=aA.length
 top:n<=H.length->aI<=aA.length
 same: ∀i,i<n\/aI<=i->(aE aA i).live=(aE H i).live
 seq:n=H.length->aA.length=aI
theorem iP.refl (H:List aF) (n:Nat):iP H n H n:=⟨b7 _,b7 _,id,λ_ _=>rfl,λh=>h.symm⟩
theorem iP.trans {H aA mC:List aF} {n aI Sg:Nat} (a:iP H n aA aI) (b:iP aA aI mC Sg):iP H n mC Sg:=
 ⟨Nat.le_trans a.le b.le,Nat.le_trans a.len b.len,λh=>b.top (a.top h),λi u=>(b.same i (u.imp (λh=>Nat.lt_of_lt_of_le h a.le) id)).trans (a.same i (u.imp id (λh=>Nat.le_trans b.le h))),λh=>b.seq (a.seq h).symm⟩
theorem e2.nx [Env] {φ:bJ} {ι:Nat->az} {w:bh} {H:List aF} {av:bJ} {aA:List aF} (g:e2 φ ι w H av aA) (n:Nat):iP H n aA n:=
 ⟨b7 _,by rw[g.len];exact b7 _,λh=>by rw[g.len];exact h,λi _=>g.live i,λh=>by rw[g.len,h]⟩
def cD [Env] (φ:bJ) (ι:Nat->az) (w:bh) (H:List aF) (n:Nat) (r:K) (aA:List aF) (aI:Nat) (run:Result az):Prop:=
 ∃v ao av aH,run=.ok v ao/\cc av aH ao aA/\Step φ ι w H av aH ao aA/\ej ι H aH aA/\iP H n aA aI/\r.rel av aH ao v/\ ∀i∈r.ids,(aE aA i).live=true
theorem cD.pure [Env] {φ:bJ} {ι:Nat->az} {w:bh} {H:List aF} {n:Nat} {r:K} {v:az} (h:cc φ ι w H) (au:r.rel φ ι w v) (ab: ∀i∈r.ids,(aE H i).live=true) {run:Result az} (e:run=.ok v w):cD φ ι w H n r H n run:=
 ⟨v,w,φ,ι,e,h,Step.refl _ _ _ _,ej.refl _ _,iP.refl _ _,au,ab⟩
theorem cD.ghost [Env] {φ:bJ} {ι:Nat->az} {w:bh} {H:List aF} {n:Nat} {r:K} {v:az} {av:bJ} {aA:List aF} (g:e2 φ ι w H av aA) (au:r.rel av ι w v) (ab: ∀i∈r.ids,(aE aA i).live=true) {run:Result az} (e:run=.ok v w):cD φ ι w H n r aA n run:=
 ⟨v,w,av,ι,e,g.rel,g.step,g.keep,g.nx n,au,ab⟩
def Plain (r:K) (v:az):Prop:=r.ids=[]/\ ∀φ ι w,r.rel φ ι w v
theorem Plain.int (k:IntKind) (a:Int):Plain (.dat (.int k) a) (.int k a):=⟨rfl,λ_ _ _=>cA.int.2 rfl⟩
theorem Plain.bool (a:Bool):Plain (.dat .bool a) (.bool a):=⟨rfl,λ_ _ _=>cA.bool.2 rfl⟩
theorem Plain.str (a:List UInt8):Plain (.dat .str a) (.string ⟨⟨a⟩⟩):=⟨rfl,λ_ _ _=>cA.str.2 rfl⟩
section
variable {P:cq} {H:List aF} {n:Nat} {r:K} {aA:List aF} {aI:Nat}
theorem aaw {op:BinOp} {k:IntKind} {a b:Int} (e:(A2 op k a b).go H n=some (r,aA,aI)) (s:op≠ .shl) (E:op≠ .shr):
  aA=H/\aI=n/\ ∃v,Plain r v/\ ∀(w:bh) (T:bm) (x y:Operand),(do eqGuard op T x y (.int k a) (.int k b);binOp op T (.int k a) (.int k b):Sem az).run P w=.ok v w:=by
 cases op<;>simp only[A2,HM.go,bH,cV,reduceCtorEq]at e
 case add=>obtain ⟨rfl,rfl,rfl⟩:=e;exact ⟨rfl,rfl,_,Plain.int _ _,λw T x y=>by simp[eqGuard,binOp,Op.intArith]⟩
 case sub=>obtain ⟨rfl,rfl,rfl⟩:=e;exact ⟨rfl,rfl,_,Plain.int _ _,λw T x y=>by simp[eqGuard,binOp,Op.intArith]⟩
 case mul=>obtain ⟨rfl,rfl,rfl⟩:=e;exact ⟨rfl,rfl,_,Plain.int _ _,λw T x y=>by simp[eqGuard,binOp,Op.intArith]⟩
 case quo=>
  by_cases J:b=0
  ·simp[J]at e
  ·simp only[J,decide_false,ax,bH,cV]at e;obtain ⟨rfl,rfl,rfl⟩:=e;exact ⟨rfl,rfl,_,Plain.int _ _,λw T x y=>by simp[eqGuard,binOp,Op.intDiv,J]⟩
 case rem=>
  by_cases J:b=0
  ·simp[J]at e
  ·simp only[J,decide_false,ax,bH,cV]at e;obtain ⟨rfl,rfl,rfl⟩:=e;exact ⟨rfl,rfl,_,Plain.int _ _,λw T x y=>by simp[eqGuard,binOp,Op.intDiv,J]⟩
 case and=>obtain ⟨rfl,rfl,rfl⟩:=e;exact ⟨rfl,rfl,_,Plain.int _ _,λw T x y=>by simp[eqGuard,binOp,Op.intBits]⟩
 case or=>obtain ⟨rfl,rfl,rfl⟩:=e;exact ⟨rfl,rfl,_,Plain.int _ _,λw T x y=>by simp[eqGuard,binOp,Op.intBits]⟩
 case xor=>obtain ⟨rfl,rfl,rfl⟩:=e;exact ⟨rfl,rfl,_,Plain.int _ _,λw T x y=>by simp[eqGuard,binOp,Op.intBits]⟩
 case andNot=>obtain ⟨rfl,rfl,rfl⟩:=e;exact ⟨rfl,rfl,_,Plain.int _ _,λw T x y=>by simp[eqGuard,binOp,Op.intBits]⟩
 case eql=>obtain ⟨rfl,rfl,rfl⟩:=e;exact ⟨rfl,rfl,_,Plain.bool _,λw T x y=>by simp[eqGuard,binOp,Op.intCmp];rfl⟩
 case neq=>obtain ⟨rfl,rfl,rfl⟩:=e;exact ⟨rfl,rfl,_,Plain.bool _,λw T x y=>by simp[eqGuard,binOp,Op.intCmp,bne];rfl⟩
 case lss=>obtain ⟨rfl,rfl,rfl⟩:=e;exact ⟨rfl,rfl,_,Plain.bool _,λw T x y=>by simp[eqGuard,binOp,Op.intCmp]⟩
 case leq=>obtain ⟨rfl,rfl,rfl⟩:=e;exact ⟨rfl,rfl,_,Plain.bool _,λw T x y=>by simp[eqGuard,binOp,Op.intCmp]⟩
 case gtr=>obtain ⟨rfl,rfl,rfl⟩:=e;exact ⟨rfl,rfl,_,Plain.bool _,λw T x y=>by simp[eqGuard,binOp,Op.intCmp]⟩
 case geq=>obtain ⟨rfl,rfl,rfl⟩:=e;exact ⟨rfl,rfl,_,Plain.bool _,λw T x y=>by simp[eqGuard,binOp,Op.intCmp]⟩
theorem aai {op:BinOp} {k cj:IntKind} {a b:Int} (e:(GA op k a b).go H n=some (r,aA,aI)):
  aA=H/\aI=n/\ ∃v,Plain r v/\ ∀(w:bh) (T:bm) (x y:Operand),(do eqGuard op T x y (.int k a) (.int cj b);binOp op T (.int k a) (.int cj b):Sem az).run P w=.ok v w:=by
 cases op<;>simp only[GA,HM.go,reduceCtorEq]at e
 case shl=>
  by_cases J:b<0
  ·simp[J]at e
  ·simp only[J,decide_false,ax,bH,cV]at e;obtain ⟨rfl,rfl,rfl⟩:=e;exact ⟨rfl,rfl,_,Plain.int _ _,λw T x y=>by simp[eqGuard,binOp,Op.shift,J]⟩
 case shr=>
  by_cases J:b<0
  ·simp[J]at e
  ·simp only[J,decide_false,ax,bH,cV]at e;obtain ⟨rfl,rfl,rfl⟩:=e;exact ⟨rfl,rfl,_,Plain.int _ _,λw T x y=>by simp[eqGuard,binOp,Op.shift,J]⟩
theorem qn (x:List UInt8):(⟨⟨x⟩⟩:ByteArray).toList=x:=ByteArray.toList_eq _
theorem uC (a b:List UInt8):(a==b)=decide (a=b):=by rw[Bool.eq_iff_iff];simp
theorem aqN {op:BinOp} {a b:List UInt8} (e:(Pc op a b).go H n=some (r,aA,aI)):
  aA=H/\aI=n/\ ∃v,Plain r v/\ ∀(w:bh) (T:bm) (x y:Operand),(do eqGuard op T x y (.string ⟨⟨a⟩⟩) (.string ⟨⟨b⟩⟩);binOp op T (.string ⟨⟨a⟩⟩) (.string ⟨⟨b⟩⟩):Sem az).run P w=.ok v w:=by
 cases op<;>simp only[Pc,HM.chk,HM.go,bH,cV,reduceCtorEq]at e
 case add=>
  by_cases J:a.length+b.length<=bp
  ·simp only[J,cw,ak,bH,cV]at e;obtain ⟨rfl,rfl,rfl⟩:=e;refine ⟨rfl,rfl,.string ⟨⟨a++b⟩⟩,Plain.str _,λw T x y=> ?_⟩;have s:(⟨⟨a⟩⟩:ByteArray).size=a.length:=rfl;have E:(⟨⟨b⟩⟩:ByteArray).size=b.length:=rfl;have hm:IntKind.i64.max=9223372036854775807:=rfl;unfold bp at J;have aC:(⟨⟨a⟩⟩:ByteArray)++(⟨⟨b⟩⟩:ByteArray)=⟨⟨a++b⟩⟩:=by apply ByteArray.ext;simp[ByteArray.data_append]
   simp only[eqGuard,binOp,Op.stringOp,s,E,aC];simp;omega
  ·simp[J]at e
 case eql=>obtain ⟨rfl,rfl,rfl⟩:=e;exact ⟨rfl,rfl,_,Plain.bool _,λw T x y=>by simp[eqGuard,binOp,Op.stringOp,qn,uC]⟩
 case neq=>obtain ⟨rfl,rfl,rfl⟩:=e;exact ⟨rfl,rfl,_,Plain.bool _,λw T x y=>by simp[eqGuard,binOp,Op.stringOp,qn,uC]⟩
 case lss=>obtain ⟨rfl,rfl,rfl⟩:=e;exact ⟨rfl,rfl,_,Plain.bool _,λw T x y=>by simp[eqGuard,binOp,Op.stringOp,qn]⟩
 case leq=>obtain ⟨rfl,rfl,rfl⟩:=e;exact ⟨rfl,rfl,_,Plain.bool _,λw T x y=>by simp[eqGuard,binOp,Op.stringOp,qn,uC]⟩
 case gtr=>obtain ⟨rfl,rfl,rfl⟩:=e;exact ⟨rfl,rfl,_,Plain.bool _,λw T x y=>by simp[eqGuard,binOp,Op.stringOp,qn,uC]⟩
 case geq=>obtain ⟨rfl,rfl,rfl⟩:=e;exact ⟨rfl,rfl,_,Plain.bool _,λw T x y=>by simp[eqGuard,binOp,Op.stringOp,qn]⟩
end
open Go.RowKit
section
variable {P:cq} {cx:cd} {φ:bJ} {ι:Nat->az} {w:bh} {H:List aF} {n:Nat} {r:K} {aA:List aF} {aI:Nat}
theorem cD.plain [Env] {v:az} (h:cc φ ι w H) (aP:Plain r v) {run:Result az} (e:run=.ok v w):cD φ ι w H n r H n run:=
 cD.pure h (aP.2 φ ι w) (by rw[aP.1];simp) e
theorem V8 {T:bm} (al:P.underlying T=some .bool) (I:Nat) (a b:Bool) (w:bh):(Op.equalIn (I+1) T (.bool a) (.bool b)).run P w=.ok (a==b) w:=by simp[Op.equalIn,run_underlying al]
theorem XW {T:bm} (al:P.underlying T=some .bool) (a b:Bool) (w:bh):(Op.equal T (.bool a) (.bool b)).run P w=.ok (a==b) w:=V8 al 9999 a b w
theorem apB [Env] (tab:cQ P cx) {op:BinOp} {T:bm} {x y:K} (e:(O8 cx op T x y).go H n=some (r,aA,aI)) (h:cc φ ι w H) {cE gU:az} (ai:x.rel φ ι w cE) (bo:y.rel φ ι w gU)
  (fC: ∀i∈x.ids,(aE H i).live=true) (tb: ∀i∈y.ids,(aE H i).live=true) (nX pI:Operand):
  cD φ ι w H n r aA aI ((do eqGuard op T nX pI cE gU;binOp op T cE gU:Sem az).run P w):=by
 unfold O8 at e;split at e
 ·rename_i k a cj b;obtain rfl:=cA.int.1 ai;obtain rfl:=cA.int.1 bo;split at e
  ·obtain ⟨rfl,rfl,v,aP,au⟩:=aai (P:=P) (cj:=cj) e;exact cD.plain h aP (au w T nX pI)
  ·obtain ⟨rfl,rfl,v,aP,au⟩:=aai (P:=P) (cj:=cj) e;exact cD.plain h aP (au w T nX pI)
  ·rename_i s E;by_cases af:k=cj
   ·subst af;simp only[cw,ak]at e;obtain ⟨rfl,rfl,v,aP,au⟩:=aaw (P:=P) e s E;exact cD.plain h aP (au w T nX pI)
   ·simp[af,HM.go]at e
 ·rename_i a b;obtain rfl:=cA.str.1 ai;obtain rfl:=cA.str.1 bo;obtain ⟨rfl,rfl,v,aP,au⟩:=aqN (P:=P) e;exact cD.plain h aP (au w T nX pI)
 ·rename_i k a m;obtain rfl:=cA.int.1 ai;obtain ⟨c,rfl,aw⟩: ∃c:Nat,gU=.int .i64 (c:Int)/\m<=c:=bo;split at e
  ·by_cases af:k=.i64
   ·subst af;simp only[cw,ak]at e;obtain ⟨J,e⟩:=HM.go_chk e;simp only[HM.go,bH,cV]at e;obtain ⟨rfl,rfl,rfl⟩:=e;have J: @LE.le Int _ a (m:Int):=of_decide_eq_true J;have aL:decide (@GT.gt Int _ a (c:Int))=false:=decide_eq_false (by omega);have aa:(A2 .gtr .i64 a (c:Int)).go H n=some (.dat .bool false,H,n):=by simp only[A2,HM.go,aL]
    obtain ⟨-,-,v,aP,au⟩:=aaw (P:=P) aa (by simp) (by simp);exact cD.plain h aP (au w T nX pI)
   ·simp[af,HM.go]at e
  ·simp[HM.go]at e
 ·rename_i a b;obtain rfl:=cA.bool.1 ai;obtain rfl:=cA.bool.1 bo;by_cases bU:cx.isTy T .bool=true
  ·obtain ⟨i,u,ew⟩:=hK bU;have al:=(tab T i u).desc;unfold k6 at al;rw[ew]at al;simp only at al;rw[bU]at e;simp only[ak]at e;cases op<;>simp only[HM.go,bH,cV,reduceCtorEq]at e
   case eql=>
    obtain ⟨rfl,rfl,rfl⟩:=e;refine cD.plain h (Plain.bool _) ?_;simp only[eqGuard,binOp,Sem.run_bind,Sem.run_pure,Result.andThen_ok,XW al];simp
   case neq=>
    obtain ⟨rfl,rfl,rfl⟩:=e;refine cD.plain h (Plain.bool _) ?_;simp only[eqGuard,binOp,Sem.run_bind,Sem.run_pure,Result.andThen_ok,XW al];simp
  ·simp[bU,HM.go]at e
 ·split at e
  ·rename_i i u;by_cases aw:(i.cmp&&i.ty.cmp&&i.ty.isAgg)=true
   ·rw[aw]at e;simp only[ak]at e;simp only[bN]at aw;obtain ⟨a,H1,c8,L,a1⟩:=HM.go_bind_some e;clear e;obtain ⟨b,e3,dP,aa,e⟩:=HM.go_bind_some a1;clear a1;obtain ⟨rfl,dy,g1,v1⟩:=Fv L h ai fC;obtain ⟨rfl,ec,g2,v2⟩:=Fv aa g1.rel (K.rel_step g1.step g1.keep tb bo) (λi u=>by rw[g1.live];exact tb i u);have v1:=v1.mono g2.step.phi g2.step.cells;have aD:=(tab T i u).cmp aw.1.1 aw.1.2 aw.2 ec w a b cE gU nX pI v1 v2;cases op<;>simp only[HM.go,bH,cV,reduceCtorEq]at e
    case eql=>
     obtain ⟨rfl,rfl,rfl⟩:=e;exact cD.ghost (g1.trans g2) ((Plain.bool _).2 _ _ _) (by simp[K.ids]) aD.1
    case neq=>
     obtain ⟨rfl,rfl,rfl⟩:=e;exact cD.ghost (g1.trans g2) ((Plain.bool _).2 _ _ _) (by simp[K.ids]) aD.2
   ·simp only[Bool.not_eq_true]at aw;rw[aw]at e;simp[HM.go]at e
  ·simp[HM.go]at e
theorem aqj [Env] {op:UnOp} {x:K} (e:(KP op x).go H n=some (r,aA,aI)) (h:cc φ ι w H) {cE:az} (ai:x.rel φ ι w cE):cD φ ι w H n r aA aI ((Op.unary op cE).run P w):=by
 unfold KP at e;split at e
 ·obtain rfl:=cA.int.1 ai;simp only[HM.go,bH,cV]at e;obtain ⟨rfl,rfl,rfl⟩:=e;exact cD.plain h (Plain.int _ _) (by simp[Op.unary,Op.intArith])
 ·obtain rfl:=cA.bool.1 ai;simp only[HM.go,bH,cV]at e;obtain ⟨rfl,rfl,rfl⟩:=e;exact cD.plain h (Plain.bool _) (by simp[Op.unary])
 ·obtain rfl:=cA.int.1 ai;simp only[HM.go,bH,cV]at e;obtain ⟨rfl,rfl,rfl⟩:=e;exact cD.plain h (Plain.int _ _) (by simp[Op.unary,Op.intBits])
 ·simp[HM.go]at e
def oZ (t:aB) (cs:List az):az:=if t.isAgg then .agg cs.toArray else cs.headD undef
theorem arJ {v:az} (h:v.oneCell'=true):j8 v=false:=by cases v<;>first |rfl |(simp[Value.oneCell']at h)
theorem cA.of {t:aB} {x:t.den} {cs:List az} (h:bt φ w t x cs):cA φ w t x (oZ t cs)/\(oZ t cs).cells.toList=cs:=by
 unfold oZ;by_cases aS:t.isAgg=true
 ·rw[if_pos aS];have:(Value.agg cs.toArray).cells.toList=cs:=by simp[Value.cells]
  exact ⟨⟨by rw[this];exact h,by rw[aS];rfl⟩,this⟩
 ·simp only[Bool.not_eq_true]at aS;rw[if_neg (by simp[aS])];have ab:=h.len;have ae:t.size=1:=by cases t<;>first |rfl |(simp[aB.isAgg]at aS)
  rw[ae]at ab;obtain ⟨v,rfl⟩:=List.length_eq_one_iff.1 ab;have aZ:=arJ (h.one _ _ _ v (by simp));have aw:v.cells.toList=[v]:=by rw[rE aZ]
  simp only[List.headD_cons];exact ⟨⟨by rw[aw];exact h,aZ.trans aS.symm⟩,aw⟩
theorem aaL {i:Nat} {t:aB} {x d:K} {v:az} (au:x.rel φ ι w v) (aL:x.fits t=true) (aw:x.comp i=some d):
  ∃ad aO,t.nth i=some ad/\d.rel φ ι w aO/\d.fits ad=true/\aO.cells.toList=(v.cells.toList.drop (t.offs i)).take ad.size/\j8 aO=ad.isAgg/\ ∀j∈d.ids,j∈x.ids:=by
 unfold K.comp at aw;split at aw
 ·rename_i l i;obtain ⟨cs,rfl,au⟩:=au;simp only[K.fits]at aL
  suffices bC: ∀(l:List K) (t:aB) (cs:List az) (i:Nat),K.relL φ ι w l cs->K.fitsL l t=true->l[i]? =some d->
    ∃ad aO,t.nth i=some ad/\d.rel φ ι w aO/\d.fits ad=true/\aO.cells.toList=(cs.drop (t.offs i)).take ad.size/\j8 aO=ad.isAgg/\ ∀j∈d.ids,j∈K.idsL l by
   simpa [K.ids,Value.cells] using bC _ t cs.toList _ au aL aw
  intro l
  induction l with
  |nil=>intro t cs i _ _ h;simp at h
  |cons a l aQ=>
   intro t cs i au aL u;obtain ⟨v,aX,rfl,s,E⟩:=au;cases t with
   |pair p q=>
    simp only[K.fitsL,bN]at aL;obtain ⟨g1,g2⟩:=K.rel_fits a p v s aL.1;cases i with
    |zero=>
     simp only[List.getElem?_cons_zero,bH]at u;subst u;refine ⟨p,v,rfl,s,aL.1,?_,g2,λj an=>by simp[K.idsL,an]⟩;simp only[aB.offs,List.drop_zero];rw[<-g1,show v.cells.size=v.cells.toList.length by simp,List.take_left]
    |succ i=>
     obtain ⟨ad,aO,bb,aU,ck,ep,hz,iI⟩:=aQ q aX i E aL.2 (by simpa using u);refine ⟨ad,aO,bb,aU,ck,?_,hz,λj an=>by simp[K.idsL,iI j an]⟩;simp only[aB.offs];rw[<-g1,show v.cells.size=v.cells.toList.length by simp,<-List.drop_drop,List.drop_left];exact ep
   |_=>simp[K.fitsL]at aL
 ·rename_i rk ad x;have e:ad=t:=by simpa [K.fits] using aL
  subst e;obtain ⟨I,al,rfl⟩:=h7.1 aw;obtain ⟨g1,g2⟩:=Ft au.1 al;obtain ⟨bb,aU⟩:=cA.of g2;exact ⟨I.t,_,g1,bb,by simp[K.fits],aU,bb.2,by simp[K.ids]⟩
 ·cases aw
theorem al7 {T:bm} {ms:Array (String×bm)} (hu:P.underlying T=some (.interface ms)) (I:Nat) (U:bm) (ad:az) (w:bh):(Op.equalIn (I+1) T (.iface U ad) .nilIface).run P w=.ok false w:=by simp[Op.equalIn,run_underlying hu]
theorem al8 {T:bm} {ms:Array (String×bm)} (hu:P.underlying T=some (.interface ms)) (I:Nat) (w:bh):(Op.equalIn (I+1) T .nilIface .nilIface).run P w=.ok true w:=by simp[Op.equalIn,run_underlying hu]
theorem aov {T:bm} {ms:Array (String×bm)} (hu:P.underlying T=some (.interface ms)):(∀U ad,(Op.equal T (.iface U ad) .nilIface).run P w=.ok false w)/\(Op.equal T .nilIface .nilIface).run P w=.ok true w:=
 ⟨λU ad=>al7 hu 9999 U ad w,al8 hu 9999 w⟩
theorem ao8 [Env] (tab:cQ P cx) {op:BinOp} {T:bm} {x:K} (e:(Pm cx op T x).go H n=some (r,aA,aI)) (h:cc φ ι w H) {cE:az} (ai:x.rel φ ι w cE) (fC: ∀i∈x.ids,(aE H i).live=true) (nX:Operand) (y:az) (bo:y=.nilIface:=by rfl):
  cD φ ι w H n r aA aI ((do eqGuard op T nX (.const y) cE .nilIface;binOp op T cE .nilIface:Sem az).run P w):=by
 subst bo;unfold Pm at e;split at e
 ·rename_i i u;cases aR:i.nil
  ·simp[aR,HM.go]at e
  ·rw[aR,ak]at e;obtain ⟨ms,hu⟩:=(tab T i u).iface aR;obtain ⟨bj,bG⟩:=aov (w:=w) hu;split at e
   ·simp only[HM.go,bH,cV]at e;obtain ⟨rfl,rfl,rfl⟩:=e;obtain ⟨ad,rfl,-⟩:=ai;refine cD.plain h (Plain.bool _) ?_;simp[eqGuard,binOp,bj,bG]
   ·simp only[HM.go,bH,cV]at e;obtain ⟨rfl,rfl,rfl⟩:=e;obtain ⟨ad,rfl,-⟩:=ai;refine cD.plain h (Plain.bool _) ?_;simp[eqGuard,binOp,bj,bG]
   ·simp only[HM.go,bH,cV]at e;obtain ⟨rfl,rfl,rfl⟩:=e;obtain rfl:cE=.nilIface:=ai;refine cD.plain h (Plain.bool _) ?_;simp[eqGuard,binOp,bj,bG]
   ·simp only[HM.go,bH,cV]at e;obtain ⟨rfl,rfl,rfl⟩:=e;obtain rfl:cE=.nilIface:=ai;refine cD.plain h (Plain.bool _) ?_;simp[eqGuard,binOp,bj,bG]
   ·simp[HM.go]at e
 ·simp[HM.go]at e
end
open Go.RowKit
section
variable {P:cq} {cx:cd} {φ:bJ} {ι:Nat->az} {w:bh} {H:List aF} {n:Nat} {r:K} {aA:List aF} {aI:Nat}
theorem h3 {t:aB} {x:t.den} {v:az} (h:cA φ w t x v):(K.dat t x).rel φ ι w v:=h
theorem Uw {v:az} {cs:List az} {t:aB} (s:v.cells.toList=cs) (E:j8 v=t.isAgg):v=oZ t cs:=by
 unfold oZ;by_cases aS:t.isAgg=true
 ·rw[if_pos aS];obtain ⟨c,rfl⟩:=uO (E.trans aS);simp only[Value.cells]at s;rw[<-s]
 ·simp only[Bool.not_eq_true]at aS;rw[if_neg (by simp[aS])];rw[rE (E.trans aS)]at s;subst s;rfl
theorem aoW {p:List Nat}: ∀{t:aB} {x d:K} {v:az},x.rel φ ι w v->x.fits t=true->x.atPath p=some d->
  ∃ad aO,t.at_ p=some ad/\d.rel φ ι w aO/\d.fits ad=true/\aO.cells.toList=(v.cells.toList.drop (t.offAt p)).take ad.size/\j8 aO=ad.isAgg/\ ∀j∈d.ids,j∈x.ids:=by
 induction p with
 |nil=>
  intro t x d v au aL aP;simp only[K.atPath,bH]at aP;subst aP;obtain ⟨g1,g2⟩:=K.rel_fits x t v au aL;refine ⟨t,v,rfl,au,aL,?_,g2,λj an=>an⟩;simp only[aB.offAt,List.drop_zero];rw[<-g1,show v.cells.size=v.cells.toList.length by simp,eM]
 |cons i p aQ=>
  intro t x d v au aL aP;simp only[K.atPath]at aP;split at aP
  ·rename_i y bo;obtain ⟨ad,aO,bb,aU,ck,ep,hz,iI⟩:=aaL au aL bo;obtain ⟨iN,wk,dD,dr,pt,rv,avo,Is⟩:=aQ aU ck aP;refine ⟨iN,wk,by simp only[aB.at_,bb,dD],dr,pt,?_,avo,λj an=>iI j (Is j an)⟩;have hle:=sb dD;rw[rv,ep];simp only[aB.offAt,bb];rw[List.drop_take,List.take_take,List.drop_drop,Nat.min_eq_left (by omega)]
  ·cases aP
theorem J3 (tab:cQ P cx) {T:bm} {i:gj} (u:cx.ti T=some i) {b o:Nat} {cs:List az} (ab:cs.length=i.ty.size) (aw: ∀j v,cs[j]? =some v->w.cell? ⟨b,o+j,none⟩=some v):
  (loadVar T ⟨b,o,none⟩).run P w=.ok (oZ i.ty cs) w:=by
 unfold loadVar;simp only[Sem.run_bind,NS tab u,Result.andThen_ok];unfold oZ;by_cases aS:i.ty.isAgg=true
 ·rw[if_pos aS,if_pos aS];have:=run_loadCells_list (P:=P) w ⟨b,o,none⟩ cs (λj v an=>by rw[hv];exact aw j v an);simp only[Sem.run_bind,Em tab u,Result.andThen_ok,<-ab,this,Sem.run_pure]
 ·simp only[Bool.not_eq_true]at aS;have ae:i.ty.size=1:=by cases h:i.ty<;>first |rfl |(rw[h]at aS;simp[aB.isAgg]at aS)
  rw[ae]at ab;obtain ⟨v,rfl⟩:=List.length_eq_one_iff.1 ab;have:=aw 0 v rfl;simp only[Nat.add_zero]at this;simp[aS,load,Sem.run,this]
theorem iG {A dg:Option Addr} {n aI c eu:Nat} (h:Value.slice A n c=.slice dg aI eu):A=dg/\n=aI/\c=eu:=by injection h with a b c;exact ⟨a,b,c⟩
theorem acH [Env] (h:cc φ ι w H) {o:Nat} {e:bm} {t:aB} {xs:List t.den} {fz:Bool} (W:aE H o=.arr e t xs fz) {i:Nat} {p:List Nat} {v:az} (au:(K.ptr o t i p).rel φ ι w v):
  ∃b cur c0 k,v=.pointer (some ⟨b,k+i*t.size+t.offAt p,none⟩)/\w.heap[b]? =some (.cells cur e c0)/\sI c0 cur.size/\(∀v∈cur.toList,v.oneCell'=true)/\i<xs.length/\k+(i+1)*t.size<=cur.size/\dG (ι o)=some b/\
   bt φ w t (xs.getD i t.zero) ((cur.toList.drop (k+i*t.size)).take t.size)/\su (ι o)=k:=by
 obtain ⟨b,k,J,rfl,aP⟩:=au;have ch:=h.obj o;rw[W]at ch;rcases J with ⟨n,c,J,u⟩|⟨J,_⟩
 ·obtain ⟨A,aI,eu,L,aa,a1,bq,bC⟩:=ch;rw[J]at L;obtain ⟨rfl,rfl,rfl⟩:=iG L;rcases bC with bC |⟨bQ,pre,cur,c0,cU,g1,g2,g3,g0,g4,g5,g6,g7⟩
  ·omega
  ·injection cU with cU
   injection cU with cU asU
   subst cU asU;have hle:(i+1)*t.size<=n*t.size:=gW _ u;have QZ:n*t.size<=c*t.size:=gW _ a1;have mh: ∀v∈(pre++cur).toList,v.oneCell'=true:=λv aZ=>by
    rw[Array.toList_append]at aZ;rcases dk.1 aZ with aZ |aZ
    ·exact g0 v aZ
    ·exact g4.one v aZ
   refine ⟨b,pre++cur,c0,pre.size,rfl,g1,by rw[Array.size_append];exact g3.ok,mh,by omega,by rw[Array.size_append];omega,by rw[J];simp[dG];omega,?_,by rw[J];rfl⟩;have atN:(pre++cur).toList.drop (pre.size+i*t.size)=cur.toList.drop (i*t.size):=by rw[Array.toList_append,<-List.drop_drop,show pre.size=pre.toList.length by simp,List.drop_left]
   rw[atN];have ai:xs[i]? =some (xs.getD i t.zero):=by rw[jH,hg (by omega)];rfl
   have bu:=g5.get (λx c=>bt.len t x c) _ _ i _ ai;rw[Nat.add_mul,Nat.one_mul]at hle;rw[List.drop_take,List.take_take,Nat.min_eq_left (by omega)]at bu;exact bu
 ·obtain ⟨A,aI,eu,L,_⟩:=ch;rw[J]at L;cases L
theorem acI [Env] (h:cc φ ι w H) {o:Nat} {T:bm} {t:aB} {x:K} (W:aE H o=.box T t x) {i:Nat} {p:List Nat} {v:az} (au:(K.ptr o t i p).rel φ ι w v):
  ∃b cur c0 ad,v=.pointer (some ⟨b,t.offAt p,none⟩)/\w.heap[b]? =some (.cells cur T c0)/\cur.size=t.size/\sI c0 cur.size/\(∀v∈cur.toList,v.oneCell'=true)/\x.rel φ ι w ad/\ad.cells=cur/\x.fits t=true/\dG (ι o)=some b:=by
 obtain ⟨b,k,J,rfl,aP⟩:=au;have ch:=h.obj o;rw[W]at ch;obtain ⟨bQ,cur,c0,ad,L,g1,g2,g3,g4,g5,g6,g7,g8⟩:=ch;rcases J with ⟨n,c,J,u⟩|⟨J,u⟩
 ·rw[J]at L;cases L
 ·rw[J]at L;injection L with L
  injection L with L
  injection L with L
  subst L;exact ⟨b,cur,c0,ad,by rw[u.1,u.2];simp,g1,g2,g3,g4,g5,g6,g7,by rw[J];rfl⟩
theorem ZR [Env] (tab:cQ P cx) {T:bm} {a:K} (e:(AY cx T a).go H n=some (r,aA,aI)) (h:cc φ ι w H) {my:az} (aS:a.rel φ ι w my):
  aA=H/\aI=n/\ ∃v,(Instr.loadAt T my).run P w=.ok v w/\(do loadVar T (<-asAddr my):Sem az).run P w=.ok v w/\r.rel φ ι w v/\ ∀i∈r.ids,(aE H i).live=true:=by
 unfold AY at e;split at e
 ·rename_i b off l;by_cases bU:cx.isTy T .opq=true
  ·obtain ⟨i,u,ew⟩:=hK bU;rw[bU]at e;simp only[ak]at e;cases l with
   |nil=>simp[HM.ofOpt,HM.bind,HM.go]at e
   |cons x l=>
    simp only[List.head?,HM.ofOpt,HM.bind,HM.go,bH,cV]at e;obtain ⟨rfl,rfl,rfl⟩:=e;obtain ⟨rfl,fS⟩:=aS;have aw:=(fS 0 (mQ x) rfl).2;have eL:=J3 (w:=w) tab u (cs:=[mQ x]) (b:=b) (o:=off) (by rw[ew];rfl) (λj v an=>by
     cases j with
     |zero=>
      obtain rfl:mQ x=v:=by simpa using an
      exact aw
     |succ j=>simp at an)
    have aZ:oZ i.ty [mQ x]=mQ x:=by rw[ew];rfl
    rw[aZ]at eL;refine ⟨rfl,rfl,mQ x,?_,?_,?_,?_⟩
    ·simp[Instr.loadAt,Instr.sureAddr,asAddr,eL]
    ·simp[asAddr,eL]
    ·cases x with
     |none=>rfl
     |some f=>exact ⟨#[],#[],rfl,rfl,rfl⟩
    ·cases x<;>simp[adq,K.ids,K.idsL]
  ·simp[bU,HM.go]at e
 ·rename_i t v;by_cases bU:cx.isTy T t=true
  ·obtain ⟨i,u,rfl⟩:=hK bU;rw[bU]at e;simp only[ak,HM.go,bH,cV]at e;obtain ⟨rfl,rfl,rfl⟩:=e;obtain ⟨b,o,cs,rfl,fS,aw⟩:=aS;have eL:=J3 (w:=w) tab u (aw.len) (λj v an=>(fS j v an).2);refine ⟨rfl,rfl,_,?_,?_,h3 (cA.of aw).1,by simp[K.ids]⟩<;>simp[Instr.loadAt,Instr.sureAddr,asAddr,eL]
  ·simp[bU,HM.go]at e
 ·rename_i o d i p;by_cases bU:cx.isTyO T (d.at_ p)=true
  ·obtain ⟨ti,u,fS⟩:=Gc bU;rw[bU]at e;simp only[ak,HM.go]at e;split at e
   ·rename_i b6 t xs fz hm;obtain ⟨kF,W,rfl⟩:=oK hm;by_cases gS:d=t
    ·subst gS;simp only[cw,ak]at e;obtain ⟨I,H1,c8,L,aa⟩:=HM.go_bind_some e;rw[HM.go_ofOpt]at L;obtain ⟨lF,al,L⟩:=h7.1 L;simp only[cV]at L;obtain ⟨rfl,rfl,rfl⟩:=L;simp only[HM.go,bH,cV]at aa;obtain ⟨rfl,rfl,rfl⟩:=aa;obtain ⟨b,cur,c0,bw,rfl,g1,g2,g3,g4,g5,g6,g7,-⟩:=acH h W aS;obtain ⟨bb,aU⟩:=arV (I:=⟨d,xs.getD i d.zero⟩) g7 al;simp only at bb aU;rw[fS]at bb;injection bb with bb
     have hle:=sb fS;have ab:=aU.len;have eL:=J3 (w:=w) (b:=b) (o:=bw+i*d.size+d.offAt p) tab u (by rw[bb];exact ab) (λj v an=>by
      rw[List.drop_take,List.take_take,List.drop_drop]at an;rw[List.getElem?_take]at an;split at an
      ·rw[List.getElem?_drop]at an;rw[qg g1];simpa using an
      ·cases an)
     refine ⟨rfl,rfl,_,?_,?_,h3 (cA.of aU).1,by simp[K.ids]⟩<;>simp[Instr.loadAt,Instr.sureAddr,asAddr,eL,bb]
    ·simp[gS,HM.go]at e
   ·rename_i EK t x hm;have W:=aii hm;by_cases gS:d=t
    ·subst gS;simp only[cw,ak]at e;rw[HM.go_ofOpt]at e;obtain ⟨y,bo,e⟩:=h7.1 e;simp only[cV]at e;obtain ⟨rfl,rfl,rfl⟩:=e;obtain ⟨b,cur,c0,ad,rfl,g1,g2,g3,g4,g5,rfl,g7,g8⟩:=acI h W aS;obtain ⟨ty,aO,bb,aU,ck,ep,hz,iI⟩:=aoW g5 g7 bo;rw[fS]at bb;injection bb with bb
     subst bb;have hle:=sb fS;have ab:(aO.cells.toList).length=ti.ty.size:=by rw[ep];simp;omega
     have eL:=J3 (w:=w) (b:=b) (o:=d.offAt p) (cs:=aO.cells.toList) tab u ab (λj v an=>by
      rw[ep,List.getElem?_take]at an;split at an
      ·rw[List.getElem?_drop]at an;rw[qg g1];simpa using an
      ·cases an)
     refine ⟨rfl,rfl,_,?_,?_,aU,λj an=>h.idsB o _ _ _ W j (iI j an)⟩<;>simp[Instr.loadAt,Instr.sureAddr,asAddr,eL,<-Uw rfl hz]
    ·simp[gS,HM.go]at e
   ·simp[HM.go]at e
  ·simp[bU,HM.go]at e
 ·simp[HM.go]at e
theorem an2 [Env] (tab:cQ P cx) {T:bm} {a:K} (e:(AY cx T a).go H n=some (r,aA,aI)) (h:cc φ ι w H) {my:az} (aS:a.rel φ ι w my):
  cD φ ι w H n r aA aI ((Instr.loadAt T my).run P w):=by
 obtain ⟨s,E,v,O,-,aC,ba⟩:=ZR tab e h aS;subst s E;exact cD.pure h aC ba O
end
open Go.RowKit
theorem abm (t:aB) (p q:List Nat):t.at_ (p++q)=(t.at_ p).bind λad=>ad.at_ q:=by
 induction p generalizing t with
 |nil=>simp[aB.at_]
 |cons i p aQ=>
  simp only[List.cons_append,aB.at_];cases t.nth i with
  |none=>rfl
  |some ad=>exact aQ ad
theorem ZD {t ad:aB} {p q:List Nat} (h:t.at_ p=some ad):t.offAt (p++q)=t.offAt p+ad.offAt q:=by
 induction p generalizing t with
 |nil=>simp[aB.at_]at h;subst h;simp[aB.offAt]
 |cons i p aQ=>
  simp only[aB.at_]at h;split at h
  ·rename_i e he;simp only[List.cons_append,aB.offAt,he];rw[aQ h,Nat.add_assoc]
  ·cases h
section
variable {P:cq} {cx:cd} {φ:bJ} {ι:Nat->az} {w:bh} {H:List aF} {n:Nat} {r:K} {aA:List aF} {aI:Nat}
theorem go_ret {α:Type} {a b:α} {H aA:List aF} {n aI:Nat} (e:(HM.ret a).go H n=some (b,aA,aI)):b=a/\aA=H/\aI=n:=by simp only[HM.go,bH,cV]at e;exact ⟨e.1.symm,e.2.1.symm,e.2.2.symm⟩
theorem go_opt {α:Type} {o:Option α} {b:α} {H aA:List aF} {n aI:Nat} (e:(HM.ofOpt o).go H n=some (b,aA,aI)):o=some b/\aA=H/\aI=n:=by rw[HM.go_ofOpt]at e;obtain ⟨a,aS,e⟩:=h7.1 e;simp only[cV]at e;obtain ⟨rfl,rfl,rfl⟩:=e;exact ⟨aS,rfl,rfl⟩
theorem go_bif {α:Type} {b:Bool} {x:HM α} {H:List aF} {n:Nat} {r:α×List aF×Nat} (e:(bif b then x else .fail).go H n=some r):b=true/\x.go H n=some r:=by
 cases b
 ·simp[HM.go]at e
 ·exact ⟨rfl,e⟩
theorem z6 (tab:cQ P cx) {T:bm} {i:gj} (u:cx.ti T=some i) {f:Nat} {ad:bm} (aL:i.fields[f]? =some ad):
  (i.arr=false/\ ∃ct fd,P.underlying T=some (.struct ct)/\ct[f]? =some fd/\fd.type=ad/\nQ P cx i.ty f ad fd.offset)\/
   (i.arr=true/\ ∃e dB,P.underlying T=some (.array i.fields.length e)/\P.info? e=some dB/\ad=e/\nQ P cx i.ty f ad (f*dB.size))\/i.ty.isAgg=false:=by
 have al:=(tab T i u).desc;unfold k6 at al;split at al
 ·rename_i e;exact .inr (.inr (by rw[e];rfl))
 ·rename_i e;exact .inr (.inr (by rw[e];rfl))
 ·rename_i e;exact .inr (.inr (by rw[e];rfl))
 ·rename_i e;exact .inr (.inr (by rw[e];rfl))
 ·rename_i e;exact .inr (.inr (by rw[e];rfl))
 ·rcases al with ⟨aS,ct,al,ae,af⟩|⟨aS,n,e,dB,al,aR,he,af⟩
  ·obtain ⟨fd,s,E,O⟩:=af f ad aL;exact .inl ⟨aS,ct,fd,al,s,E,O⟩
  ·obtain ⟨s,E⟩:=af f ad aL;exact .inr (.inl ⟨aS,e,dB,by rw[aR];exact al,he,s,E⟩)
theorem kL (tab:cQ P cx) {T:bm} {i:gj} (u:cx.ti T=some i) {t:aB} (aT:i.ty=.list t):P.underlying T=some (.slice i.elem)/\sF P i.elem t i.bytes:=by have al:=(tab T i u).desc;unfold k6 at al;rw[aT]at al;exact ⟨al.1,al.2.1⟩
theorem aa6 (tab:cQ P cx) {T:bm} {i:gj} (u:cx.ti T=some i) {t:aB} (aT:i.ty=.list t): ∃ad,cx.ti i.elem=some ad/\ad.ty=t:=by have al:=(tab T i u).desc;unfold k6 at al;rw[aT]at al;exact al.2.2
theorem rT (tab:cQ P cx) {T:bm} {i:gj} (u:cx.ti T=some i) (aT:i.ty=.str):P.underlying T=some .string:=by have al:=(tab T i u).desc;unfold k6 at al;rw[aT]at al;exact al
theorem Gb (tab:cQ P cx) {T:bm} {i:gj} (u:cx.ti T=some i) {k:IntKind} (aT:i.ty=.int k):P.underlying T=some (.int k):=by have al:=(tab T i u).desc;unfold k6 at al;rw[aT]at al;exact al
theorem yB {e:bm} {t:aB} {bytes:Nat} (h:sF P e t bytes) (w:bh):(sizeOf e).run P w=.ok t.size w:=by obtain ⟨dB,z,s,E,_⟩:=h;simp[sizeOf,typeInfo,s,E]
theorem w5 {o:Nat} {t:aB} {i:Nat} {p:List Nat} {v:az} (h: ∃b k,((∃n c,ι o=.slice (some ⟨b,k,none⟩) n c/\i<n)\/(ι o=.pointer (some ⟨b,0,none⟩)/\i=0/\k=0))/\v=.pointer (some ⟨b,k+i*t.size+t.offAt p,none⟩)/\(t.at_ p).isSome):(K.ptr o t i p).rel φ ι w v:=h
theorem OA {t:aB} {x:t.den} {v:az} (h: ∃b o cs,v=.pointer (some ⟨b,o,none⟩)/\kv φ w b o cs/\bt φ w t x cs):(K.fptr t x).rel φ ι w v:=h
theorem AL {t:aB} {o aM u:Nat} {v:az} (h: ∃A n c dg,ι o=.slice A n c/\aM<=u/\u<=n/\n<=c/\v=.slice dg (u-aM) (c-aM)/\(c≠aM->dg=A.map (·.add (aM*t.size)))/\(c≠0-> ∃b k,A=some ⟨b,k,none⟩)):(K.view t o aM u).rel φ ι w v:=h
theorem uK {t:aB} {o:Nat} {v:az} (h:v=ι o/\ ∃A n c,v=.slice A n c):(K.own t o).rel φ ι w v:=h
theorem ahU {t:aB} {xs:List t.den} {v:az} (h: ∃A n,v=.slice A n n/\bt φ w (.list t) xs [v]):(K.clip t xs).rel φ ι w v:=h
theorem aah (tab:cQ P cx) {T:bm} {ti:gj} (u:cx.ti T=some ti) (hQ:ti.arr=false) (jx:ti.ty.isAgg=true) {f:Nat} (bd:f<ti.fields.length) (b o:Nat):
  ∃j,cx.ti ti.fields[f]=some j/\ti.ty.nth f=some j.ty/\(Instr.fieldAt T (.pointer (some ⟨b,o,none⟩)) f).run P w=.ok (.pointer (some ⟨b,o+ti.ty.offs f,none⟩)) w:=by
 rcases z6 tab u (hg bd) with ⟨_,ct,fd,al,s,E,O⟩|⟨s,_⟩|s
 ·obtain ⟨W,j,an,mg,dT⟩:=O;refine ⟨j,an,mg,?_⟩;have Ro:=Em (w:=w) tab an;unfold Instr.fieldAt;simp only[Sem.run_bind,run_underlying al,Result.andThen_ok,s,Instr.sureAddr,Sem.run_pure,fieldPlace,E,Ro];rw[if_neg (by omega)];simp[hv,W]
 ·rw[hQ]at s;cases s
 ·rw[jx]at s;cases s
theorem Pd {b o k d:Nat} {cs:List az} (fS:kv φ w b o cs):kv φ w b (o+k) ((cs.drop k).take d):=by
 intro j ad an;rw[List.getElem?_take]at an;split at an
 ·rw[List.getElem?_drop]at an;have:=fS _ ad an
  rwa [<-Nat.add_assoc]at this
 ·cases an
theorem als [Env] (tab:cQ P cx) {T:bm} {x:K} {f:Nat} (e:(Mz cx T x f).go H n=some (r,aA,aI)) (h:cc φ ι w H) {cE:az} (ai:x.rel φ ι w cE) (fC: ∀i∈x.ids,(aE H i).live=true):
  cD φ ι w H n r aA aI ((Instr.fieldAt T cE f).run P w):=by
 unfold Mz at e;split at e
 ·rename_i ti u;have q:=go_bif e;clear e;obtain ⟨J,e⟩:=q;simp only[bN,eJ,Nat.blt_eq]at J;obtain ⟨⟨hQ,jx⟩,bd⟩:=J;cases x<;>simp only[HM.go,reduceCtorEq]at e
  case ptr o t j p=>
   have q:=go_bif e;clear e;obtain ⟨bU,e⟩:=q;obtain ⟨rfl,rfl,rfl⟩:=go_ret e;obtain ⟨rk,dH,fS⟩:=Gc bU;rw[u]at dH;injection dH with dH
   subst dH;obtain ⟨b,k,J,rfl,aP⟩:=ai;obtain ⟨gL,kG,mg,eL⟩:=aah (P:=P) (w:=w) tab u hQ jx bd b (k+j*t.size+t.offAt p);have L:ti.ty.offAt [f]=ti.ty.offs f:=by simp[aB.offAt,mg]
   refine cD.pure (r:=.ptr o t j (p++[f])) h (w5 ⟨b,k,J,?_,?_⟩) (by simpa [K.ids] using fC) eL
   ·rw[ZD fS,L];simp only[Nat.add_assoc]
   ·rw[abm,fS];simp[aB.at_,mg]
  case fptr t v=>
   have q:=go_bif e;clear e;obtain ⟨bU,e⟩:=q;obtain ⟨rk,dH,rfl⟩:=hK bU;rw[u]at dH;injection dH with dH
   subst dH;obtain ⟨I,H1,c8,L,aa⟩:=HM.go_bind_some e;obtain ⟨al,rfl,rfl⟩:=go_opt L;obtain ⟨rfl,rfl,rfl⟩:=go_ret aa;obtain ⟨b,o,cs,rfl,fS,aw⟩:=ai;obtain ⟨g1,g2⟩:=Ft aw al;obtain ⟨gL,kG,mg,eL⟩:=aah (P:=P) (w:=w) tab u hQ jx bd b o;exact cD.pure h (OA ⟨b,o+ti.ty.offs f,_,rfl,Pd fS,g2⟩) (by simp[K.ids]) eL
 ·simp[HM.go]at e
theorem anc [Env] (tab:cQ P cx) {T:bm} {x:K} {f:Nat} (e:(Ol cx T x f).go H n=some (r,aA,aI)) (h:cc φ ι w H) {cE:az} (ai:x.rel φ ι w cE) (fC: ∀i∈x.ids,(aE H i).live=true):
  cD φ ι w H n r aA aI ((Instr.field T cE f).run P w):=by
 unfold Ol at e;split at e
 ·rename_i ti u;have q:=go_bif e;clear e;obtain ⟨J,e⟩:=q;simp only[bN,eJ,Nat.blt_eq]at J;obtain ⟨⟨⟨hQ,jx⟩,bd⟩,aL⟩:=J;obtain ⟨aw,rfl,rfl⟩:=go_opt e;obtain ⟨ad,aO,bb,aU,ck,ep,hz,iI⟩:=aaL ai aL aw;have aZ:=(K.rel_fits x ti.ty cE ai aL).2;rw[jx]at aZ;obtain ⟨cs,rfl⟩:=uO aZ;have dT:=(K.rel_fits x ti.ty _ ai aL).1;rcases z6 tab u (hg bd) with ⟨_,ct,fd,al,s,E,O⟩|⟨s,_⟩|s
  ·obtain ⟨W,j,an,mg,ayQ⟩:=O;rw[bb]at mg;injection mg with mg
   subst mg;have hle:=FZ bb;simp only[Value.cells]at dT ep;refine cD.pure h aU (λi u=>fC i (iI i u)) ?_;unfold Instr.field;simp only[Sem.run_bind,run_underlying al,Result.andThen_ok,s,E,asAgg,Sem.run_pure,part,NS tab an];rw[Uw ep hz];unfold oZ;by_cases aS:j.ty.isAgg=true
   ·rw[if_pos aS,if_pos aS];simp only[Sem.run_bind,Em tab an,Result.andThen_ok,Sem.run_pure];congr 2;apply Array.ext';rw[Array.toList_extract,List.extract_eq_take_drop,W];simp
   ·simp only[Bool.not_eq_true]at aS;have ae:j.ty.size=1:=by cases h:j.ty<;>first |rfl |(rw[h]at aS;simp[aB.isAgg]at aS)
    have p9:ti.ty.offs f<cs.size:=by rw[dT];omega
    rw[ae,W];have L:(cs.toList.drop (ti.ty.offs f)).take 1=[cs[ti.ty.offs f]]:=by rw[lu (by simpa using p9)];simp
    simp[aS,Array.getElem?_eq_getElem p9,L]
  ·rw[hQ]at s;cases s
  ·rw[jx]at s;cases s
 ·simp[HM.go]at e
end
open Go.RowKit
section
variable {P:cq} {cx:cd} {φ:bJ} {ι:Nat->az} {w:bh} {H:List aF} {n:Nat} {r:K} {aA:List aF} {aI:Nat}
theorem I2 {T e:bm} (al:P.underlying T=some (.slice e)) {d:Nat} (ae: ∀w,(sizeOf e).run P w=.ok d w) {a:Addr} {m c:Nat} {k:IntKind} {i:Int} (b8:0<=i) (s:i<m):
  (Instr.indexAt T (.slice (some a) m c) (.int k i)).run P w=.ok (.pointer (some (a.add (i.toNat*d)))) w:=by
 unfold Instr.indexAt;simp[asIntOf,run_underlying al,ae,b8,s]
theorem SY {T e:bm} {m:Nat} (al:P.underlying T=some (.array m e)) {d:Nat} (ae: ∀w,(sizeOf e).run P w=.ok d w) {a:Addr} {k:IntKind} {i:Int} (b8:0<=i) (s:i<m):
  (Instr.indexAt T (.pointer (some a)) (.int k i)).run P w=.ok (.pointer (some (a.add (i.toNat*d)))) w:=by
 unfold Instr.indexAt;simp[asIntOf,run_underlying al,ae,b8,s,Instr.sureAddr]
theorem go_chk2 {α:Type} {b:Bool} {x:HM α} {H:List aF} {n:Nat} {r:α×List aF×Nat} (e:(HM.chk b x).go H n=some r):b=true/\x.go H n=some r:=HM.go_chk e
theorem abD {α:Type} {xs:List α} {i:Nat} {I:α} (h:i<xs.length):xs[i]? =some (xs.getD i I):=by rw[jH,hg h];rfl
theorem abv {t:aB} {xs:List t.den} {A:Option Addr} {m c:Nat} (h:bt φ w (.list t) xs [.slice A m c]) {i:Nat} (u:i<xs.length):
  ∃a,A=some a/\m=xs.length/\(K.fptr t (xs.getD i t.zero)).rel φ ι w (.pointer (some (a.add (i*t.size)))):=by
 obtain ⟨dg,rA,eu,e,ab,aR,h⟩:=h;injection e with e _
 obtain ⟨rfl,rfl,rfl⟩:=iG e;rcases h with h |⟨b,o,aW,rfl,fS,af⟩
 ·omega
 ·refine ⟨_,rfl,ab.symm,OA ⟨b,o+i*t.size,(aW.drop (i*t.size)).take t.size,by rw[hv],Pd fS,?_⟩⟩;exact af.get (λx c=>bt.len t x c) _ _ i _ (abD u)
theorem p1 (tab:cQ P cx) {T:bm} {i:gj} (u:cx.ti T=some i) {t:aB} (aT:i.ty=.list t):P.underlying T=some (.slice i.elem)/\ ∀w,(sizeOf i.elem).run P w=.ok t.size w:=
 ⟨(kL tab u aT).1,λw=>yB (kL tab u aT).2 w⟩
theorem go_idxIn {α:Type} {k:Nat} {f:Nat->HM α} {H:List aF} {m:Nat} {q:α×List aF×Nat}: ∀n,(uU k f n).go H m=some q->(f k).go H m=some q
 |0,h=>by simp[uU,HM.go]at h
 |n+1,h=>by
  unfold uU at h;cases J:Nat.beq k n
  ·rw[J]at h;exact go_idxIn n (by simpa [HM.go] using h)
  ·rw[J]at h;have:k=n:=by simpa using J
   subst this;simpa [HM.go] using h
theorem alu [Env] (tab:cQ P cx) {T:bm} {x:K} {i:Int} (e:(MB cx T x i).go H n=some (r,aA,aI)) (h:cc φ ι w H) {cE:az} (ai:x.rel φ ι w cE) (fC: ∀i∈x.ids,(aE H i).live=true) (k:IntKind):
  cD φ ι w H n r aA aI ((Instr.indexAt T cE (.int k i)).run P w):=by
 unfold MB at e;split at e
 ·rename_i t o;have q:=go_bif e;clear e;obtain ⟨bU,e⟩:=q;obtain ⟨ti,fl,ew⟩:=hK bU;obtain ⟨al,ae⟩:=p1 tab fl ew;simp only[HM.go]at e;split at e
  ·rename_i b6 ad xs fz hm;obtain ⟨kF,W,rfl⟩:=oK hm;have q:=go_bif e;clear e;obtain ⟨hu,e⟩:=q;have hu:ad=t:=by simpa using hu
   subst hu;have q:=go_chk2 e;clear e;obtain ⟨J,e⟩:=q;simp only[bN,dJ]at J;obtain ⟨rfl,rfl,rfl⟩:=go_ret e;obtain ⟨rfl,_⟩:=ai;have ch:=h.obj o;rw[W]at ch;obtain ⟨A,m,c,L,aa,a1,bq,bC⟩:=ch;rcases bC with bC |⟨b,pre,cur,c0,rfl,_⟩
   ·omega
   ·rw[L];refine cD.pure (r:=.ptr o ad i.toNat []) h (w5 ⟨b,pre.size,.inl ⟨m,c,L,by omega⟩,rfl,rfl⟩) (by simpa [K.ids] using fC) ?_;rw[I2 al ae J.1 (by omega)];simp[hv,aB.offAt]
  ·simp[HM.go]at e
 ·rename_i t o aM u;have q:=go_bif e;clear e;obtain ⟨bU,e⟩:=q;obtain ⟨ti,fl,ew⟩:=hK bU;obtain ⟨al,ae⟩:=p1 tab fl ew;have q:=go_chk2 e;clear e;obtain ⟨J,e⟩:=q;simp only[bN,dJ]at J;obtain ⟨rfl,rfl,rfl⟩:=go_ret e;obtain ⟨A,m,c,dg,L,s,E,O,rfl,eU,di⟩:=ai;obtain ⟨b,bw,rfl⟩:=di (by omega);obtain rfl:=eU (by omega);refine cD.pure (r:=.ptr o t (aM+i.toNat) []) (v:=.pointer (some ⟨b,bw+(aM+i.toNat)*t.size+t.offAt [],none⟩)) h (w5 ⟨b,bw,.inl ⟨m,c,L,by omega⟩,rfl,rfl⟩) (by simpa [K.ids] using fC) ?_;simp only[Option.map_some,hv];rw[I2 al ae J.1 J.2];simp[hv,aB.offAt,Nat.add_mul,Nat.add_assoc]
 ·rename_i o t j p;have q:=go_bif e;clear e;obtain ⟨bU,e⟩:=q;obtain ⟨ti,fl,fS⟩:=Gc bU;rw[fl]at e;simp only at e;have q:=go_bif e;clear e;obtain ⟨hQ,e⟩:=q;simp only[bN]at hQ;have q:=go_chk2 e;clear e;obtain ⟨J,e⟩:=q;simp only[bN,dJ]at J;have q:=go_idxIn _ e;clear e;have e:=q;clear q;obtain ⟨rfl,rfl,rfl⟩:=go_ret e;obtain ⟨b,bw,p3,rfl,aP⟩:=ai;have bd:i.toNat<ti.fields.length:=by omega
  rcases z6 tab fl (hg bd) with ⟨s,_⟩|⟨_,b6,dB,al,pf,aev,W,gL,kG,mg,_⟩|s
  ·rw[hQ.1]at s;cases s
  ·refine cD.pure (r:=.ptr o t j (p++[i.toNat])) (v:=.pointer (some ⟨b,bw+j*t.size+t.offAt (p++[i.toNat]),none⟩)) h (w5 ⟨b,bw,p3,rfl,?_⟩) (by simpa [K.ids] using fC) ?_
   ·rw[abm,fS];simp[aB.at_,mg]
   ·rw[SY al (d:=dB.size) (λw=>by simp[sizeOf,typeInfo,pf]) J.1 J.2];rw[ZD fS];simp[hv,aB.offAt,mg,<-W,Nat.add_assoc]
  ·rw[hQ.2]at s;cases s
 ·rename_i t v;have q:=go_bif e;clear e;obtain ⟨bU,e⟩:=q;obtain ⟨ti,fl,rfl⟩:=hK bU;rw[fl]at e;simp only at e;have q:=go_bif e;clear e;obtain ⟨hQ,e⟩:=q;simp only[bN]at hQ;have q:=go_chk2 e;clear e;obtain ⟨J,e⟩:=q;simp only[bN,dJ]at J;have q:=go_idxIn _ e;clear e;have e:=q;clear q;obtain ⟨I,H1,c8,L,aa⟩:=HM.go_bind_some e;obtain ⟨ot,rfl,rfl⟩:=go_opt L;obtain ⟨rfl,rfl,rfl⟩:=go_ret aa;obtain ⟨b,o,cs,rfl,fS,aw⟩:=ai;obtain ⟨g1,g2⟩:=Ft aw ot;have bd:i.toNat<ti.fields.length:=by omega
  rcases z6 tab fl (hg bd) with ⟨s,_⟩|⟨_,b6,dB,al,pf,aev,W,gL,kG,mg,_⟩|s
  ·rw[hQ.1]at s;cases s
  ·refine cD.pure (r:=.fptr I.t I.x) h (OA ⟨b,o+ti.ty.offs i.toNat,_,rfl,Pd fS,g2⟩) (by simp[K.ids]) ?_;rw[SY al (d:=dB.size) (λw=>by simp[sizeOf,typeInfo,pf]) J.1 J.2];simp[hv,<-W]
  ·rw[hQ.2]at s;cases s
 ·rename_i b off l;split at e
  ·rename_i ti fl;have q:=go_bif e;clear e;obtain ⟨hQ,e⟩:=q;simp only[bN]at hQ;have q:=go_chk2 e;clear e;obtain ⟨J,e⟩:=q;simp only[bN,dJ]at J;have q:=go_idxIn _ e;clear e;have e:=q;clear q;obtain ⟨rfl,rfl,rfl⟩:=go_ret e;obtain ⟨rfl,fS⟩:=ai;have bd:i.toNat<ti.fields.length:=by omega
   rcases z6 tab fl (hg bd) with ⟨s,_⟩|⟨_,b6,dB,al,pf,aev,W,gL,kG,mg,_⟩|s
   ·rw[hQ.1]at s;cases s
   ·refine cD.pure (r:=.gp b (off+ti.ty.offs i.toNat) (l.drop (ti.ty.offs i.toNat))) (v:=.pointer (some ⟨b,off+ti.ty.offs i.toNat,none⟩)) h ⟨rfl,?_⟩ (by simp[K.ids]) ?_
    ·intro j v an;rw[List.map_drop,List.getElem?_drop]at an;have:=fS _ v an
     rwa [<-Nat.add_assoc]at this
    ·rw[SY al (d:=dB.size) (λw=>by simp[sizeOf,typeInfo,pf]) J.1 J.2];simp[hv,<-W]
   ·rw[hQ.2]at s;cases s
  ·simp[HM.go]at e
 ·rename_i t xs;have q:=go_bif e;clear e;obtain ⟨bU,e⟩:=q;obtain ⟨ti,fl,ew⟩:=hK bU;obtain ⟨al,ae⟩:=p1 tab fl ew;have q:=go_chk2 e;clear e;obtain ⟨J,e⟩:=q;simp only[bN,dJ]at J;obtain ⟨rfl,rfl,rfl⟩:=go_ret e;obtain ⟨A,m,c,rfl,oz⟩:=cA.list ai;obtain ⟨a,rfl,rfl,au⟩:=abv (ι:=ι) (show bt φ w (.list t) xs [.slice A m c] from ⟨A,m,c,rfl,oz⟩) (i:=i.toNat) (by omega);exact cD.pure h au (by simp[K.ids]) (I2 al ae J.1 J.2)
 ·rename_i t xs;have q:=go_bif e;clear e;obtain ⟨bU,e⟩:=q;obtain ⟨ti,fl,ew⟩:=hK bU;obtain ⟨al,ae⟩:=p1 tab fl ew;have q:=go_chk2 e;clear e;obtain ⟨J,e⟩:=q;simp only[bN,dJ]at J;obtain ⟨rfl,rfl,rfl⟩:=go_ret e;obtain ⟨A,m,rfl,oz⟩:=ai;obtain ⟨a,rfl,rfl,au⟩:=abv (ι:=ι) oz (i:=i.toNat) (by omega);exact cD.pure h au (by simp[K.ids]) (I2 al ae J.1 J.2)
 ·simp[HM.go]at e
end
open Go.RowKit
section
variable {P:cq} {cx:cd} {φ:bJ} {ι:Nat->az} {w:bh} {H:List aF} {n:Nat} {r:K} {aA:List aF} {aI:Nat}
theorem ane [Env] (tab:cQ P cx) {T:bm} {x:K} {i:Int} (e:(Oo cx T x i).go H n=some (r,aA,aI)) (h:cc φ ι w H) {cE:az} (ai:x.rel φ ι w cE) (k:IntKind):
  cD φ ι w H n r aA aI ((Instr.index T cE (.int k i)).run P w):=by
 unfold Oo at e;split at e
 ·rename_i d;have q:=go_bif e;clear e;obtain ⟨bU,e⟩:=q;obtain ⟨ti,fl,ew⟩:=hK bU;have al:=rT tab fl ew;have q:=go_chk2 e;clear e;obtain ⟨J,e⟩:=q;simp only[bN,dJ]at J;obtain ⟨rfl,rfl,rfl⟩:=go_ret e;obtain rfl:=cA.str.1 ai;refine cD.plain h (Plain.int _ _) ?_;have bd:i.toNat<d.length:=by omega
  have s:(⟨⟨d⟩⟩:ByteArray)[i.toNat]? =some (d.getD i.toNat 0):=by have E:i.toNat<(⟨⟨d⟩⟩:ByteArray).size:=bd;rw[getElem?_pos (⟨⟨d⟩⟩:ByteArray) i.toNat E];rw[jH,hg bd];rfl
  unfold Instr.index;simp[asIntOf,run_underlying al,J.1,s]
 ·simp[HM.go]at e
def nV:Option az->Option Int->Prop
 |none,none=>True
 |some v,some a=> ∃k,v=.int k a
 |_,_=>False
theorem Dg {isSlice:Bool} {m c:Nat} {aM u:Option az} {l h:Option Int} (ab:nV aM l) (bC:nV u h) (b8:0<=l.getD 0) (s:l.getD 0<=h.getD m) (E:h.getD m<=m) (O:m<=c):
  (Instr.sliceBounds isSlice m c aM u none).run P w=.ok ((l.getD 0).toNat,(h.getD m).toNat,c) w:=by
 unfold Instr.sliceBounds Instr.sliceBound;cases aM with
 |none=>
  cases l with
  |some a=>exact ab.elim
  |none=>
   cases u with
   |none=>
    cases h with
    |some a=>exact bC.elim
    |none=>simp
   |some v=>
    cases h with
    |none=>exact bC.elim
    |some a=>
     obtain ⟨k,rfl⟩:=bC;simp only[Option.getD_none,Option.getD_some]at b8 s E;have:a<=(c:Int):=by omega
     simp[asIntOf,s,this]
 |some ad=>
  cases l with
  |none=>exact ab.elim
  |some b=>
   obtain ⟨cj,rfl⟩:=ab;simp only[Option.getD_some]at b8 s E ⊢;cases u with
   |none=>
    cases h with
    |some a=>exact bC.elim
    |none=>
     simp only[Option.getD_none]at s E ⊢;simp[asIntOf,b8,s]
   |some v=>
    cases h with
    |none=>exact bC.elim
    |some a=>
     obtain ⟨k,rfl⟩:=bC;simp only[Option.getD_some]at s E ⊢;have aC:0<=a:=by omega
     have ba:a<=(c:Int):=by omega
     have bF:max a 0=a:=by omega
     simp[asIntOf,b8,aC,ba,bF,s]
theorem amv {m c:Nat} {aM:Option az} {l:Option Int} {k aU:IntKind} {a I:Int} (ab:nV aM l) (b8:0<=l.getD 0) (s:l.getD 0<=a) (E:a<=I) (O:I<=m) (aC:m<=c):
  (Instr.sliceBounds true m c aM (some (.int k a)) (some (.int aU I))).run P w=.ok ((l.getD 0).toNat,a.toNat,I.toNat) w:=by
 unfold Instr.sliceBounds Instr.sliceBound;have ba:0<=a:=by omega
 have bF:0<=I:=by omega
 have dN:I<=(c:Int):=by omega
 have ig:max I 0=I:=by omega
 have p2:max a 0=a:=by omega
 cases aM with
 |none=>
  cases l with
  |some a=>exact ab.elim
  |none=>simp[asIntOf,ba,bF,dN,ig,p2,E]
 |some ad=>
  cases l with
  |none=>exact ab.elim
  |some b=>
   obtain ⟨cj,rfl⟩:=ab;simp only[Option.getD_some]at b8 s ⊢;simp[asIntOf,b8,ba,bF,dN,ig,p2,s,E]
   try (intro bd;omega)
theorem amw {m c:Nat} {aM u:Option az} {l h:Option Int} (ab:nV aM l) (bC:nV u h) (b8:0<=l.getD 0) (s:l.getD 0<=h.getD (m:Int)) (E:h.getD (m:Int)<=(c:Int)):
  (Instr.sliceBounds true m c aM u none).run P w=.ok ((l.getD 0).toNat,(h.getD (m:Int)).toNat,c) w:=by
 unfold Instr.sliceBounds Instr.sliceBound;cases aM with
 |none=>
  cases l with
  |some a=>exact ab.elim
  |none=>
   cases u with
   |none=>
    cases h with
    |some a=>exact bC.elim
    |none=>simp
   |some v=>
    cases h with
    |none=>exact bC.elim
    |some a=>
     obtain ⟨k,rfl⟩:=bC;simp only[Option.getD_none,Option.getD_some]at b8 s E;have:a<=(c:Int):=by omega
     simp[asIntOf,s,this]
 |some ad=>
  cases l with
  |none=>exact ab.elim
  |some b=>
   obtain ⟨cj,rfl⟩:=ab;simp only[Option.getD_some]at b8 s E ⊢;cases u with
   |none=>
    cases h with
    |some a=>exact bC.elim
    |none=>
     simp only[Option.getD_none]at s E ⊢;simp[asIntOf,b8,s]
   |some v=>
    cases h with
    |none=>exact bC.elim
    |some a=>
     obtain ⟨k,rfl⟩:=bC;simp only[Option.getD_some]at s E ⊢;have aC:0<=a:=by omega
     have ba:a<=(c:Int):=by omega
     have bF:max a 0=a:=by omega
     simp[asIntOf,b8,aC,ba,bF,s]
theorem amu {m c:Nat} {aM:Option az} {l:Option Int} {k aU:IntKind} {a:Int} (ab:nV aM l) (b8:0<=l.getD 0) (s:l.getD 0<=a) (E:a<=m) (O:m<=c):
  (Instr.sliceBounds true m c aM (some (.int k a)) (some (.int aU a))).run P w=.ok ((l.getD 0).toNat,a.toNat,a.toNat) w:=by
 unfold Instr.sliceBounds Instr.sliceBound;have aC:0<=a:=by omega
 have ba:a<=(c:Int):=by omega
 cases aM with
 |none=>
  cases l with
  |some a=>exact ab.elim
  |none=>
   have bF:max a 0=a:=by omega
   simp[asIntOf,aC,ba,bF]
 |some ad=>
  cases l with
  |none=>exact ab.elim
  |some b=>
   obtain ⟨cj,rfl⟩:=ab;simp only[Option.getD_some]at b8 s ⊢;have bF:max a 0=a:=by omega
   simp[asIntOf,b8,aC,ba,bF,s]
   try (intro bd;omega)
theorem bt.part {t:aB} {xs:List t.den} {A dg:Option Addr} {m c l h eu:Nat} (aw:bt φ w (.list t) xs [.slice A m c]) (s:l<=h) (E:h<=m) (O:h-l<=eu) (eU:h≠l->dg=A.map (·.add (l*t.size))):
  bt φ w (.list t) ((xs.take h).drop l) [.slice dg (h-l) eu]:=by
 obtain ⟨jr,c6,aX,e,ab,aR,bC⟩:=aw;injection e with e _
 obtain ⟨rfl,rfl,rfl⟩:=iG e;refine ⟨_,_,_,rfl,by simp[ab];omega,O,?_⟩;by_cases bI:h-l=0
 ·exact .inl bI
 ·refine .inr ?_;rcases bC with bC |⟨b,o,aW,rfl,fS,af⟩
  ·omega
  ·refine ⟨b,o+l*t.size,(aW.take (h*t.size)).drop (l*t.size),by rw[eU (by omega)];simp[hv],?_,(af.take (λx c=>bt.len t x c) h).drop (λx c=>bt.len t x c) l⟩;intro i v u;rw[List.getElem?_drop,List.getElem?_take]at u;split at u
   ·have:=fS _ v u
    rwa [<-Nat.add_assoc]at this
   ·cases u
theorem jp {T e:bm} (al:P.underlying T=some (.slice e)) {d:Nat} (ae: ∀w,(sizeOf e).run P w=.ok d w) {A:Option Addr} {m c:Nat} {aM u fM:Option az} {l h eu:Nat}
  (J:(Instr.sliceBounds true m c aM u fM).run P w=.ok (l,h,eu) w):
  (Instr.sliceAt T (.slice A m c) aM u fM).run P w=.ok (.slice (if eu=l then A else A.map (·.add (l*d))) (h-l) (eu-l)) w:=by
 unfold Instr.sliceAt Instr.slice;simp[run_underlying al,J,ae]
theorem am5 [Env] (tab:cQ P cx) {T:bm} {x:K} {aM u fM:Option Int} (e:(Oa cx T x aM u fM).go H n=some (r,aA,aI)) (h:cc φ ι w H) {cE:az} (ai:x.rel φ ι w cE) (fC: ∀i∈x.ids,(aE H i).live=true)
  {vF aZ mv:Option az} (ab:nV vF aM) (bC:nV aZ u) (hm:nV mv fM):
  cD φ ι w H n r aA aI ((Instr.sliceAt T cE vF aZ mv).run P w):=by
 unfold Oa at e;split at e
 ·rename_i d;cases fM with
  |some m=>simp[HM.go]at e
  |none=>
   cases mv with
   |some v=>exact hm.elim
   |none=>
    simp only at e;have q:=go_bif e;clear e;obtain ⟨bU,e⟩:=q;obtain ⟨ti,fl,ew⟩:=hK bU;have al:=rT tab fl ew;have q:=go_chk2 e;clear e;obtain ⟨J,e⟩:=q;simp only[bN,dJ]at J;obtain ⟨rfl,rfl,rfl⟩:=go_ret e;obtain rfl:=cA.str.1 ai;refine cD.plain h (Plain.str _) ?_;have lJ:=Dg (P:=P) (w:=w) (isSlice:=false) (c:=d.length) ab bC J.1.1 J.1.2 J.2 (b7 _);have dT:(⟨⟨d⟩⟩:ByteArray).size=d.length:=rfl;unfold Instr.sliceAt Instr.slice;simp only[Sem.run_bind,run_underlying al,Result.andThen_ok,dT,lJ,Option.isSome_none,Bool.false_eq_true,if_false,Sem.run_pure];congr 2;apply ByteArray.ext;apply Array.ext';simp[ByteArray.data_extract,List.extract_eq_take_drop,List.drop_take]
 ·rename_i t o;cases fM with
  |some yw=>
   cases u with
   |none=>simp[HM.go]at e
   |some a=>
    cases mv with
    |none=>exact hm.elim
    |some v=>
     obtain ⟨aU,rfl⟩:=hm;cases aZ with
     |none=>exact bC.elim
     |some v=>
      obtain ⟨bb,rfl⟩:=bC;simp only at e;have q:=go_bif e;clear e;obtain ⟨bU,e⟩:=q;obtain ⟨ti,fl,ew⟩:=hK bU;obtain ⟨al,ae⟩:=p1 tab fl ew;simp only[HM.go]at e;split at e
      ·rename_i b6 ad xs fz sW;obtain ⟨kF,W,rfl⟩:=oK sW;have q:=go_bif e;clear e;obtain ⟨hu,e⟩:=q;have hu:ad=t:=by simpa using hu
       subst hu;have q:=go_chk2 e;clear e;obtain ⟨J,e⟩:=q;simp only[bN,dJ]at J;obtain ⟨⟨⟨ff,en⟩,q0⟩,HS⟩:=J;obtain ⟨rfl,rfl,rfl⟩:=go_ret e;obtain ⟨rfl,_⟩:=ai;have ch:=h.obj o;rw[W]at ch;obtain ⟨A,m,c,L,aa,a1,bq,HV⟩:=ch;subst aa;rw[L];have lJ:=amv (P:=P) (w:=w) (c:=c) (k:=bb) (aU:=aU) ab ff en q0 HS a1;exact cD.pure (r:=.undef) h trivial (by simp[K.ids]) (jp al ae lJ)
      ·simp[HM.go]at e
  |none=>
   cases mv with
   |some v=>exact hm.elim
   |none=>
    simp only at e;have q:=go_bif e;clear e;obtain ⟨bU,e⟩:=q;obtain ⟨ti,fl,ew⟩:=hK bU;obtain ⟨al,ae⟩:=p1 tab fl ew;simp only[HM.go]at e;split at e
    ·rename_i b6 ad xs fz sW;obtain ⟨kF,W,rfl⟩:=oK sW;have q:=go_bif e;clear e;obtain ⟨hu,e⟩:=q;have hu:ad=t:=by simpa using hu
     subst hu;have q:=go_chk2 e;clear e;obtain ⟨J,e⟩:=q;simp only[bN,dJ]at J;obtain ⟨rfl,rfl,rfl⟩:=go_ret e;obtain ⟨rfl,_⟩:=ai;have ch:=h.obj o;rw[W]at ch;obtain ⟨A,m,c,L,aa,a1,bq,HV⟩:=ch;subst aa;rw[L];have lJ:=Dg (P:=P) (w:=w) (isSlice:=true) (c:=c) ab bC J.1.1 J.1.2 J.2 a1;refine cD.pure (r:=.view ad o (aM.getD 0).toNat (u.getD (xs.length:Int)).toNat) h (AL ⟨A,_,c,_,L,by omega,by omega,a1,rfl,λcC=>by rw[if_neg cC],?_⟩) (by simpa [K.ids] using fC) (jp al ae lJ);intro aw;rcases HV with HV |⟨b,pre,cur,c0,rfl,_⟩
     ·exact absurd HV aw
     ·exact ⟨b,_,rfl⟩
    ·simp[HM.go]at e
 ·rename_i t o a z;cases fM with
  |some m=>simp[HM.go]at e
  |none=>
   cases mv with
   |some v=>exact hm.elim
   |none=>
    simp only at e;have q:=go_bif e;clear e;obtain ⟨bU,e⟩:=q;obtain ⟨ti,fl,ew⟩:=hK bU;obtain ⟨al,ae⟩:=p1 tab fl ew;simp only[HM.go]at e;split at e
    case h_2=>simp[HM.go]at e
    rename_i b6 ad xs fz sW;obtain ⟨kF,W,rfl⟩:=oK sW;have q:=go_bif e;clear e;obtain ⟨hu,e⟩:=q;have hu:ad=t:=by simpa using hu
    subst hu;have q:=go_chk2 e;clear e;obtain ⟨J,e⟩:=q;simp only[bN,dJ]at J;obtain ⟨rfl,rfl,rfl⟩:=go_ret e;obtain ⟨A,m,c,dg,L,s,E,O,rfl,eU,di⟩:=ai;have ch:=h.obj o;rw[W]at ch;obtain ⟨jr,c6,aX,gC,aa,-⟩:=ch;rw[L]at gC;obtain ⟨rfl,rfl,rfl⟩:=iG gC;have lJ:=amw (P:=P) (w:=w) (m:=z-a) (c:=c-a) ab bC J.1.1 J.1.2 (by omega);refine cD.pure (r:=.view ad o (a+(aM.getD 0).toNat) (a+(u.getD ((z-a:Nat):Int)).toNat)) h (AL ⟨A,m,c,if c-a=(aM.getD 0).toNat then dg else dg.map (·.add ((aM.getD 0).toNat*ad.size)),L,by omega,by omega,O,?_,?_,di⟩) (by simpa [K.ids] using fC) (jp al ae lJ)
    ·congr 1<;>omega
    ·intro cC;rw[if_neg (by omega),eU (by omega)];cases A with
     |none=>rfl
     |some akn=>
      obtain ⟨b,bw,h4⟩:=di (by omega);injection h4 with h4
      subst h4;simp[hv,Nat.add_mul,Nat.add_assoc]
 ·rename_i b6 t;cases fM with
  |some m=>simp[HM.go]at e
  |none=>
   cases mv with
   |some v=>exact hm.elim
   |none=>
    simp only at e;have q:=go_bif e;clear e;obtain ⟨bU,e⟩:=q;obtain ⟨ti,fl,ew⟩:=hK bU;obtain ⟨al,ae⟩:=p1 tab fl ew;have q:=go_chk2 e;clear e;obtain ⟨J,e⟩:=q;simp only[bN,dJ]at J;obtain ⟨ff,en⟩:=J;obtain ⟨rfl,rfl,rfl⟩:=go_ret e;simp only[K.rel]at ai;subst ai;have q0:u.getD ((0:Nat):Int)=0:=by simpa using en
    have lJ:=Dg (P:=P) (w:=w) (isSlice:=true) (m:=0) (c:=0) ab bC (by omega) (by rw[ff,q0];exact Int.le_refl _) (by rw[q0];exact Int.le_refl _) (b7 _);rw[ff,q0]at lJ;exact cD.pure (r:=.nils b6 t) (v:=.slice none 0 0) h (by simp[K.rel]) (by simp[K.ids]) (by simpa using jp al ae lJ)
 ·obtain ⟨I,H1,c8,L,aa⟩:=HM.go_bind_some e;obtain ⟨rfl,av,g,yf⟩:=tt x φ cE H n I H1 c8 L h ai fC;clear e;split at aa
  ·rename_i t xs;have q:=go_bif aa;clear aa;obtain ⟨bU,aa⟩:=q;obtain ⟨ti,fl,ew⟩:=hK bU;obtain ⟨al,ae⟩:=p1 tab fl ew;obtain ⟨A,m,c,rfl,hlen,vg,oz⟩:=cA.list yf;have pd:bt av w (.list t) xs [.slice A m c]:=⟨A,m,c,rfl,hlen,vg,oz⟩;subst hlen;cases fM with
   |none=>
    cases mv with
    |some v=>exact hm.elim
    |none=>
     simp only at aa;have q:=go_chk2 aa;clear aa;obtain ⟨J,aa⟩:=q;simp only[bN,dJ]at J;obtain ⟨rfl,rfl,rfl⟩:=go_ret aa;have lJ:=Dg (P:=P) (w:=w) (isSlice:=true) (c:=c) ab bC J.1.1 J.1.2 J.2 vg;have aup:List.length xs<=c:=vg;have bj:(aM.getD 0).toNat<=(u.getD (List.length xs:Int)).toNat:=by omega
     have bG:(u.getD (List.length xs:Int)).toNat<=List.length xs:=by omega
     have xW:=bt.part (dg:=if c=(aM.getD 0).toNat then A else A.map (·.add ((aM.getD 0).toNat*t.size))) (eu:=c-(aM.getD 0).toNat) pd bj bG (by omega) (λcC=>by rw[if_neg (by omega)]);exact cD.ghost g (h3 ⟨xW,rfl⟩) (by simp[K.ids]) (jp al ae lJ)
   |some yw=>
    cases mv with
    |none=>exact hm.elim
    |some v=>
     obtain ⟨aU,rfl⟩:=hm;cases u with
     |none=>simp[HM.go]at aa
     |some a=>
      cases aZ with
      |none=>exact bC.elim
      |some v=>
       obtain ⟨bb,rfl⟩:=bC;simp only at aa;have q:=go_chk2 aa;clear aa;obtain ⟨J,aa⟩:=q;simp only[bN,dJ]at J;obtain ⟨⟨⟨ff,en⟩,q0⟩,rfl⟩:=J;obtain ⟨rfl,rfl,rfl⟩:=go_ret aa;have lJ:=amu (P:=P) (w:=w) (c:=c) (k:=bb) (aU:=aU) ab ff en q0 vg;have aup:List.length xs<=c:=vg;have bj:(aM.getD 0).toNat<=a.toNat:=by omega
       have bG:a.toNat<=List.length xs:=by omega
       have xW:=bt.part (dg:=if a.toNat=(aM.getD 0).toNat then A else A.map (·.add ((aM.getD 0).toNat*t.size))) (eu:=a.toNat-(aM.getD 0).toNat) pd bj bG (b7 _) (λcC=>by rw[if_neg cC]);exact cD.ghost g (ahU ⟨_,_,rfl,xW⟩) (by simp[K.ids]) (jp al ae lJ)
  ·simp[HM.go]at aa
theorem anC [Env] (tab:cQ P cx) {T:bm} {x:K} {aM u fM:Option Int} (e:(OC cx T x aM u fM).go H n=some (r,aA,aI)) (h:cc φ ι w H) {cE:az} (ai:x.rel φ ι w cE) (fC: ∀i∈x.ids,(aE H i).live=true)
  {vF aZ mv:Option az} (ab:nV vF aM) (bC:nV aZ u) (hm:nV mv fM):
  cD φ ι w H n r aA aI ((Instr.sliceAt T cE vF aZ mv).run P w):=by
 unfold OC at e;split at e
 ·rename_i t xs a;have q:=go_bif e;clear e;obtain ⟨bU,e⟩:=q;obtain ⟨ti,fl,ew⟩:=hK bU;obtain ⟨al,ae⟩:=p1 tab fl ew;have q:=go_chk2 e;clear e;obtain ⟨J,e⟩:=q;simp only[bN,dJ]at J;obtain ⟨rfl,rfl,rfl⟩:=go_ret e;obtain ⟨A,m,rfl,pd⟩:=ai;have hlen:xs.length=m:=by
   obtain ⟨jr,c6,aX,L,ab,_⟩:=pd;injection L with L _
   obtain ⟨rfl,rfl,rfl⟩:=iG L;exact ab
  subst hlen;cases mv with
  |some v=>exact hm.elim
  |none=>
   have lJ:=Dg (P:=P) (w:=w) (isSlice:=true) (m:=xs.length) (c:=xs.length) ab bC (by simp) (by simpa using J.1) (by simpa using J.2) (b7 _);have bG:a.toNat<=List.length xs:=by have:=J.2;omega
   have xW:=bt.part (dg:=if xs.length=0 then A else A.map (·.add (0*t.size))) (l:=0) (h:=a.toNat) (eu:=xs.length) pd (Nat.zero_le _) bG (by omega) (λcC=>by rw[if_neg (by omega)]);simp only[List.drop_zero,Nat.sub_zero]at xW;have eL:=jp (A:=A) al ae lJ;simp only[Option.getD_none,Option.getD_some,Int.toNat_zero,Nat.sub_zero]at eL;exact cD.pure (r:=.lim t (xs.take a.toNat) xs.length) h (show K.rel φ ι w (.lim t (xs.take a.toNat) xs.length) _ from ⟨_,_,rfl,xW⟩) (by simp[K.ids]) eL
 ·exact am5 tab e h ai fC ab bC hm
end
open Go.RowKit
section
variable {P:cq} {cx:cd} {φ:bJ} {ι aH:Nat->az} {w ao:bh} {H aA:List aF} {n:Nat}
theorem uA [Env] (h:cc φ ι w H) {o b:Nat} (W:(aE H o).owns=true) (J:dG (ι o)=some b):b<w.heap.size:=by
 have au:=h.obj o;cases dv:aE H o with
 |arr e t xs fz=>
  rw[dv]at au;obtain ⟨n,c,pre,cur,c0,_,_,_,_,_,s,_⟩:=au.blk_arr J;exact (kT.1 s).1
 |box T t r=>
  rw[dv]at au;obtain ⟨bQ,cur,c0,v,L,s,_⟩:=au;rw[L]at J;have:bQ=b:=by simpa [dG] using J
  subst this;exact (kT.1 s).1
 |iter d pos=>
  rw[dv]at au;obtain ⟨bQ,n,L,s,_⟩:=au;rw[L]at J;have:bQ=b:=by simpa [dG] using J
  subst this;exact (kT.1 s).1
 |loop Y R p=>
  rw[dv]at au;obtain ⟨l,rec,c,L,s⟩:=au;rw[L]at J;have:l=b:=by simpa [dG] using J
  subst this;exact (kT.1 s.heap).1
 |hole=>rw[dv]at W;cases W
 |gone=>rw[dv]at W;cases W
theorem kP [Env] (h:cc φ ι w H) {b k:Nat} (J:φ b k):b<w.heap.size:=by obtain ⟨v,aZ⟩:=h.phi b k J;exact World.block_lt_of_cell? w _ aZ
theorem cc.update [Env] (h:cc φ ι w H) (C:Nat->Prop) (af: ∀i,¬C i->aE aA i=aE H i) (u: ∀i,(aE H i).live=true->aH i=ι i) (ab: ∀i,(aE H i).live=true->(aE aA i).live=true)
  (aw: ∀i,C i->jt φ aH ao i (aE aA i)) (atG: ∀i,C i-> ∀j∈(aE aA i).ids,(aE aA j).live=true)
  (hw: ∀i b,¬C i->(aE H i).owns=true->dG (ι i)=some b->ao.heap[b]? =w.heap[b]?) (kq: ∀b k,φ b k->ao.cell? ⟨b,k,none⟩=w.cell? ⟨b,k,none⟩)
  (sQ: ∀i j b,C i->(aE aA i).owns=true->(aE aA j).owns=true->dG (aH i)=some b->dG (aH j)=some b->i=j):cc φ aH ao aA:=by
 have fa: ∀i,(aE H i).owns=true->(aE H i).live=true:=λi W=>by cases dv:aE H i<;>rw[dv]at W<;>first |rfl |(cases W)
 refine ⟨λi=> ?_,λi j b jh lf s E=> ?_,λb k J=> ?_,λi j an=> ?_,λg=>(h.glob g).mono (λ_ _ h=>h) kq⟩
 ·by_cases dL:C i
  ·exact aw i dL
  ·rw[af i dL];refine (h.obj i).keep (λ_ _ h=>h) kq (u i) (λj an=>u j (h.ids i j an)) λb W J=>⟨hw i b dL W J,λ_ h=>h⟩
 ·by_cases dL:C i
  ·exact sQ i j b dL jh lf s E
  ·by_cases ads:C j
   ·exact (sQ j i b ads lf jh E s).symm
   ·rw[af i dL]at jh;rw[af j ads]at lf;rw[u i (fa i jh)]at s;rw[u j (fa j lf)]at E;exact h.apart i j b jh lf s E
 ·rw[kq b k J];exact h.phi b k J
 ·by_cases dL:C i
  ·exact atG i dL j an
  ·rw[af i dL]at an;exact ab j (h.ids i j an)
def ee (ι:Nat->az) (n:Nat) (v:az):Nat->az:=λi=>if i=n then v else ι i
structure ia (w ao:bh):Prop where
 os:ao.os=w.os
 tape:ao.tape=w.tape
 output:ao.output=w.output
 size:w.heap.size<=ao.heap.size
 blocks: ∀b,b<w.heap.size->ao.heap[b]? =w.heap[b]?
theorem ia.cell (g:ia w ao) {b k:Nat} (J:b<w.heap.size):ao.cell? ⟨b,k,none⟩=w.cell? ⟨b,k,none⟩:=by simp[World.cell?,g.blocks b J]
theorem ia.alloc (w:bh) (o:Obj):ia w (w.alloc o):=⟨rfl,rfl,rfl,by simp,λb J=>Below.heap_alloc w o b J⟩
theorem ia.drew_alloc (w:bh) (o:Obj):ia w (w.drew.alloc o):=⟨rfl,rfl,rfl,by simp,λb J=>Below.heap_alloc w.drew o b J⟩
theorem A9 [Env] (h:cc φ ι w H) (aR:n<=H.length) (aL:(aE H n).live=false) (g:ia w ao) {v:az} {dd:aF} (dv:jt φ (ee ι n v) ao n dd) (fk: ∀i∈dd.ids,(aE H i).live=true) (gG:dd.live=true)
  (jK: ∀b,dG v=some b->w.heap.size<=b):
  cc φ (ee ι n v) ao (bY H n dd)/\Step φ ι w H φ (ee ι n v) ao (bY H n dd)/\ej ι H (ee ι n v) (bY H n dd)/\iP H n (bY H n dd) (n+1):=by
 have bx: ∀i,aE (bY H n dd) i=if i=n then dd else aE H i:=λi=>gA H n dd i aR
 have cC: ∀i,(aE H i).live=true->i≠n:=λi u e=>by subst e;rw[aL]at u;cases u
 have fa: ∀i,(aE H i).owns=true->(aE H i).live=true:=λi W=>by cases dv:aE H i<;>rw[dv]at W<;>first |rfl |(cases W)
 have u: ∀i,(aE H i).live=true->ee ι n v i=ι i:=λi u=>by simp[ee,cC i u]
 have ab: ∀i,(aE H i).live=true->(aE (bY H n dd) i).live=true:=λi h=>by rw[bx,if_neg (cC i h)];exact h
 have kq: ∀b k,φ b k->ao.cell? ⟨b,k,none⟩=w.cell? ⟨b,k,none⟩:=λb k J=>g.cell (kP h J)
 refine ⟨h.update (λi=>i=n) (λi dL=>by rw[bx,if_neg dL]) u ab ?_ ?_ (λi b _ W J=>g.blocks b (uA h W J)) kq ?_,?_,⟨u,ab⟩,?_⟩
 ·rintro i rfl;rw[bx,if_pos rfl];exact dv
 ·rintro i rfl j an;rw[bx,if_pos rfl]at an;exact ab j (fk j an)
 ·rintro i j b rfl s E O aC;by_cases an:j=i
  ·exact an.symm
  ·rw[bx,if_neg an]at E;rw[u j (fa j E)]at aC;have:=uA h E aC;have:=jK b (by simpa [ee] using O);omega
 ·refine ⟨λ_ _ h=>h,kq,λ_ _ h=>.inl h,g.size,g.os,g.tape,g.output,λb J _=>g.blocks b J,λb J=> ?_⟩;obtain ⟨o,s,E⟩:=J;rw[bx]at s;split at s
  ·rename_i e;subst e;exact .inl (jK b (by simpa [ee] using E))
  ·rename_i e;exact .inr ⟨o,s,by simpa [ee,e] using E⟩
 ·refine ⟨by omega,?_,λh=> ?_,λi u=>by rw[bx,if_neg (by omega)],λh=> ?_⟩
  ·rcases Nat.lt_or_ge n H.length with s |s
   ·rw[ie H n dd s];exact b7 _
   ·have:n=H.length:=by omega
    subst this;rw[tA];omega
  ·rcases Nat.lt_or_ge n H.length with s |s
   ·rw[ie H n dd s];exact s
   ·have:n=H.length:=by omega
    subst this;rw[tA];exact b7 _
  ·subst h;rw[tA]
structure ja (w ao:bh) (b:Nat):Prop where
 os:ao.os=w.os
 tape:ao.tape=w.tape
 output:ao.output=w.output
 size:ao.heap.size=w.heap.size
 blocks: ∀k,k≠b->ao.heap[k]? =w.heap[k]?
theorem ja.refl (w:bh) (b:Nat):ja w w b:=⟨rfl,rfl,rfl,rfl,λ_ _=>rfl⟩
theorem ja.trans {DR:bh} {b:Nat} (g:ja w ao b) (k:ja ao DR b):ja w DR b:=
 ⟨k.os.trans g.os,k.tape.trans g.tape,k.output.trans g.output,k.size.trans g.size,λi u=>(k.blocks i u).trans (g.blocks i u)⟩
theorem ja.cell {b:Nat} (g:ja w ao b) {c k:Nat} (J:c≠b):ao.cell? ⟨c,k,none⟩=w.cell? ⟨c,k,none⟩:=by simp[World.cell?,g.blocks c J]
theorem A8 [Env] (h:cc φ ι w H) {o b:Nat} (W:(aE H o).owns=true) (J:dG (ι o)=some b) (g:ja w ao b) (kq: ∀k,¬φ b k) {dd:aF} (dv:jt φ ι ao o dd) (fk: ∀i∈dd.ids,(aE H i).live=true) (gG:dd.owns=true):
  cc φ ι ao (bY H o dd)/\Step φ ι w H φ ι ao (bY H o dd)/\ej ι H ι (bY H o dd)/\iP H n (bY H o dd) n:=by
 have fa: ∀i,(aE H i).owns=true->(aE H i).live=true:=λi W=>by cases dv:aE H i<;>rw[dv]at W<;>first |rfl |(cases W)
 have bd:=gB (fa o W);have bx: ∀i,aE (bY H o dd) i=if i=o then dd else aE H i:=λi=>gA H o dd i (Nat.le_of_lt bd)
 have aun:dd.live=true:=by cases dd<;>first |rfl |(cases gG)
 have q6: ∀i,(aE (bY H o dd) i).live=(aE H i).live:=λi=>by
  rw[bx];split
  ·rename_i e;subst e;rw[aun,fa i W]
  ·rfl
 have ab: ∀i,(aE H i).live=true->(aE (bY H o dd) i).live=true:=λi h=>by rw[q6];exact h
 have CT: ∀c k,φ c k->ao.cell? ⟨c,k,none⟩=w.cell? ⟨c,k,none⟩:=λc k aw=>g.cell (λe=>kq k (e▸aw))
 refine ⟨h.update (λi=>i=o) (λi dL=>by rw[bx,if_neg dL]) (λ_ _=>rfl) ab ?_ ?_ (λi c dL jh aw=>g.blocks c ?_) CT ?_,?_,⟨λ_ _=>rfl,ab⟩,?_⟩
 ·rintro i rfl;rw[bx,if_pos rfl];exact dv
 ·rintro i rfl j an;rw[bx,if_pos rfl]at an;exact ab j (fk j an)
 ·rintro rfl;exact dL (h.apart i o c jh W aw J)
 ·rintro i j c rfl s E O aC;by_cases an:j=i
  ·exact an.symm
  ·rw[bx,if_neg an]at E;exact h.apart i j c W E O aC
 ·refine ⟨λ_ _ h=>h,CT,λ_ _ h=>.inl h,by rw[g.size];exact b7 _,g.os,g.tape,g.output,λc aw aR=>g.blocks c (λe=>aR ⟨o,W,e▸J⟩),λc aw=> ?_⟩;obtain ⟨i,s,E⟩:=aw;rw[bx]at s;split at s
  ·rename_i e;subst e;exact .inr ⟨i,W,E⟩
  ·exact .inr ⟨i,s,E⟩
 ·exact ⟨b7 _,by rw[ie H o dd bd];exact b7 _,λh=>by rw[ie H o dd bd];exact h,λi _=>q6 i,λh=>by rw[ie H o dd bd,h]⟩
theorem NU (pre cur:Array az) (news:List az) (a l:Nat):((pre++cur).toList.take (pre.size+a)++news++(pre++cur).toList.drop (pre.size+a+l)).toArray=pre++(cur.toList.take a++news++cur.toList.drop (a+l)).toArray:=by
 apply Array.ext';have s:(pre++cur).toList.take (pre.size+a)=pre.toList++cur.toList.take a:=by rw[Array.toList_append,show pre.size=pre.toList.length by simp,List.take_length_add_append]
 have E:(pre++cur).toList.drop (pre.size+a+l)=cur.toList.drop (a+l):=by rw[Array.toList_append,show pre.size+a+l=pre.toList.length+(a+l) by simp;omega,<-List.drop_drop,List.drop_left]
 rw[s,E];simp
theorem Gy (pre cur:Array az) (k:Nat):(pre++cur)[pre.size+k]? =cur[k]? :=by rw[Array.getElem?_append_right (by omega),show pre.size+k-pre.size=k by omega]
theorem ahP (pre cur:Array az) (k:Nat):(pre++cur).toList.drop (pre.size+k)=cur.toList.drop k:=by rw[Array.toList_append,show pre.size+k=pre.toList.length+k by simp,<-List.drop_drop,List.drop_left]
theorem Jj (P:cq) {b:Nat} {e:bm} {c0:Nat×Nat} (o:Nat): ∀(aO:List az) (i:Nat) (cur:Array az) (w:bh),w.heap[b]? =some (.cells cur e c0)->sI c0 cur.size->o+i+aO.length<=cur.size->(∀v∈aO,v.oneCell'=true)->
  ∃ao,(storeCells ⟨b,o,none⟩ aO i).run P w=.ok () ao/\ao.heap[b]? =some (.cells (cur.toList.take (o+i)++aO++cur.toList.drop (o+i+aO.length)).toArray e c0)/\ja w ao b
 |[],i,cur,w,J,aL,ab,s=>⟨w,rfl,by simp[J],ja.refl w b⟩
 |v::r,i,cur,w,J,aL,ab,s=>by
  simp only[gn]at ab;have bd:o+i<cur.size:=by omega
  have aw:w.cell? ⟨b,o+i,none⟩=some cur[o+i]:=by rw[qg J,Array.getElem?_eq_getElem bd]
  have bI:w.frozen? ⟨b,o+i,none⟩=false:=by have:=aL (o+i) bd;simp only[World.frozen?,J];simp only[Bool.and_eq_false_iff,decide_eq_false_iff_not];omega
  have gS:(store ((⟨b,o,none⟩:Addr).add i) v).run P w=.ok () (w.setCell ⟨b,o+i,none⟩ v):=by rw[hv,run_store P w _ v _ (s v (by simp)),aw];simp[bI]
  have ff:(w.setCell ⟨b,o+i,none⟩ v).heap[b]? =some (.cells (cur.setIfInBounds (o+i) v) e c0):=by simp only[World.setCell,Array.getElem?_modify,J,if_pos,Option.map_some];simp
  have gT:ja w (w.setCell ⟨b,o+i,none⟩ v) b:=⟨rfl,rfl,rfl,by simp[World.setCell],λk af=>Below.heap_setCell w _ v k af⟩;obtain ⟨ao,E,O,aC⟩:=Jj P o r (i+1) (cur.setIfInBounds (o+i) v) (w.setCell ⟨b,o+i,none⟩ v) ff (by simpa using aL) (by simp;omega) (λx ai=>s x (by simp[ai]));refine ⟨ao,?_,?_,gT.trans aC⟩
  ·simp only[storeCells,Sem.run_bind,gS,Result.andThen_ok,E]
  ·rw[O];congr 2;apply Array.ext';simp only[Array.toList_setIfInBounds,gn];have Cw:o+i<cur.toList.length:=by simpa using bd
   rw[show o+(i+1)=o+i+1 by omega,List.take_set,List.drop_set_of_lt (by omega),List.take_succ_eq_append_getElem Cw];have hlen:(cur.toList.take (o+i)).length=o+i:=by simp;omega
   rw[List.set_append_right _ _ (by omega),hlen];simp[show o+i+1+r.length=o+i+(r.length+1) by omega]
end
open Go.RowKit
section
variable {P:cq} {cx:cd} {φ:bJ} {ι aH:Nat->az} {w ao:bh} {H:List aF} {n:Nat} {r:K} {aA:List aF} {aI:Nat}
mutual
theorem K.rel_one: ∀(r:K) (t:aB) (v:az),r.rel φ ι w v->r.fits t=true-> ∀ad∈v.cells.toList,ad.oneCell'=true
 | .dat ad x,t,v,h,aL=>h.1.one _ _ _
 | .nils _ ad,t,v,h,aL=>by simp only[K.rel]at h;subst h;intro ad hu;simp[Value.cells]at hu;subst hu;rfl
 | .own ad o,t,v,h,aL=>by obtain ⟨_,A,n,c,rfl⟩:=h;intro ad hu;simp[Value.cells]at hu;subst hu;rfl
 | .agg l,t,v,h,aL=>by obtain ⟨cs,rfl,h⟩:=h;exact K.relL_one l t cs.toList h (by simpa [K.fits] using aL)
 | .ptr o ad i p,t,v,h,aL=>by obtain ⟨b,_,_,rfl,_⟩:=h;intro ad hu;simp[Value.cells]at hu;subst hu;rfl
 | .fptr ad x,t,v,h,aL=>by obtain ⟨b,o,cs,rfl,_⟩:=h;intro ad hu;simp[Value.cells]at hu;subst hu;rfl
 | .fn f a b,t,v,h,aL=>by obtain ⟨x,y,rfl,_⟩:=h;intro ad hu;simp[Value.cells]at hu;subst hu;rfl
 | .iface T r,t,v,h,aL=>by obtain ⟨ad,rfl,_⟩:=h;intro ad hu;simp[Value.cells]at hu;subst hu;rfl
 | .nilI,t,v,h,aL=>by simp only[K.rel]at h;subst h;intro ad hu;simp[Value.cells]at hu;subst hu;rfl
 | .nilF,t,v,h,aL=>by simp only[K.rel]at h;subst h;intro ad hu;simp[Value.cells]at hu;subst hu;rfl
 | .nilP,t,v,h,aL=>by simp only[K.rel]at h;subst h;intro ad hu;simp[Value.cells]at hu;subst hu;rfl
 | .undef,_,_,_,aL=>by simp[K.fits]at aL
 | .atl _,_,_,_,aL=>by simp[K.fits]at aL
 | .lim ..,_,_,_,aL=>by simp[K.fits]at aL
 | .yld Y o,t,v,h,aL=>by obtain ⟨_,l,rfl⟩:=h;intro ad hu;simp[Value.cells]at hu;subst hu;rfl
 | .gp ..,_,_,_,aL=>by simp[K.fits]at aL
 | .dfr ..,_,_,_,aL=>by simp[K.fits]at aL
 | .clip ..,_,_,_,aL=>by simp[K.fits]at aL
 | .nilv,_,_,_,aL=>by simp[K.fits]at aL
 | .view ..,_,_,_,aL=>by simp[K.fits]at aL
 | .tup _,_,_,_,aL=>by simp[K.fits]at aL
theorem K.relL_one: ∀(l:List K) (t:aB) (cs:List az),K.relL φ ι w l cs->K.fitsL l t=true-> ∀ad∈cs,ad.oneCell'=true
 |[],t,cs,h,aL=>by simp only[K.relL]at h;subst h;simp
 |r::l,t,cs,⟨v,aX,e,s,E⟩,aL=>by
  subst e;cases t with
  |pair a b=>
   simp only[K.fitsL,bN]at aL;intro ad hu;rcases dk.1 hu with hu |hu
   ·exact K.rel_one r a v s aL.1 ad hu
   ·exact K.relL_one l b aX E aL.2 ad hu
  |_=>simp[K.fitsL]at aL
end
theorem w7 {T:bm} {v:az} (h:r.rel φ ι w v):(cx.typ T r).rel φ ι w v:=by
 unfold cd.typ;split
 ·split
  ·split
   ·exact h
   ·trivial
  ·trivial
 ·exact h
theorem w6 {T:bm}: ∀i∈(cx.typ T r).ids,i∈r.ids:=by
 unfold cd.typ;split
 ·split
  ·split<;>simp[K.ids]
  ·simp[K.ids]
 ·exact λ_ h=>h
theorem Nn [Env] {x:K} (e:(Bb x).go H n=some (r,aA,aI)) (h:cc φ ι w H) {v:az} (ai:x.rel φ ι w v) (fC: ∀i∈x.ids,(aE H i).live=true):
  aI=n/\ ∃av,e2 φ ι w H av aA/\r.rel av ι w v/\ ∀i∈r.ids,(aE aA i).live=true:=by
 unfold Bb at e;split at e
 ·obtain ⟨I,H1,c8,L,aa⟩:=HM.go_bind_some e;obtain ⟨rfl,rfl,rfl⟩:=go_ret aa;obtain ⟨aR,av,g,aZ⟩:=tt _ φ v H n I aA aI L h ai fC;exact ⟨aR,av,g,h3 aZ,by simp[K.ids]⟩
 ·obtain ⟨rfl,rfl,rfl⟩:=go_ret e;obtain ⟨A,m,rfl,aw⟩:=ai;exact ⟨rfl,φ,e2.refl h,h3 ⟨aw,rfl⟩,by simp[K.ids]⟩
 ·obtain ⟨rfl,rfl,rfl⟩:=go_ret e;exact ⟨rfl,φ,e2.refl h,ai,fC⟩
theorem aa2 (m:Nat):sI (0,0) m:=λk _ h=>by omega
theorem uu (t:aB) (m:Nat):xQ t (0,0) m:=⟨aa2 m,.inr (by simp)⟩
def iZ (H:List aF) (n aI:Nat):Prop:=n<=H.length/\ ∀i,n<=i->i<aI->(aE H i).live=false
theorem iZ.ghost [Env] {av:bJ} (f:iZ H n aI) (g:e2 φ ι w H av aA):iZ aA n aI:=⟨by rw[g.len];exact f.1,λi s E=>by rw[g.live];exact f.2 i s E⟩
theorem aqK (T:bm) (v:az):(newVar T v).run P w=.ok ⟨w.heap.size,0,none⟩ (w.alloc (.cells v.cells T)):=by simp[newVar,newRow]
theorem ajf [Env] (h:cc φ ι w H) {T:bm} {t:aB} {v:az} (au:r.rel φ ι w v) (aL:r.fits t=true) (ab: ∀i∈r.ids,(aE H i).live=true) (aR:n<=H.length) (h5:(aE H n).live=false) (aT:(t.at_ []).isSome=true):
  cD φ ι w H n (.ptr n t 0 []) (bY H n (.box T t r)) (n+1) (.ok (.pointer (some ⟨w.heap.size,0,none⟩)) (w.alloc (.cells v.cells T))):=by
 obtain ⟨dT,_⟩:=K.rel_fits r t v au aL;have cC: ∀i∈r.ids,i≠n:=λi u e=>by have:=ab i u;rw[e,h5]at this;cases this
 have g:=ia.alloc w (.cells v.cells T);have J:(w.alloc (.cells v.cells T)).heap[w.heap.size]? =some (.cells v.cells T (0,0)):=heap_alloc_new w _;have Ri:r.rel φ (ee ι n (.pointer (some ⟨w.heap.size,0,none⟩))) (w.alloc (.cells v.cells T)) v:=
  K.rel_mono (λ_ _ h=>h) (λb k J=>g.cell (kP h J)) r v (λi u=>by simp[ee,cC i u]) au
 obtain ⟨s,E,O,aC⟩:=A9 (v:=.pointer (some ⟨w.heap.size,0,none⟩)) (dd:=.box T t r) h aR h5 g
  ⟨w.heap.size,v.cells,(0,0),v,by simp[ee],J,dT,aa2 _,K.rel_one r t v au aL,Ri,rfl,aL,λk af=>by have:=kP h af;omega⟩ ab rfl
  (λb J=>by
          have:w.heap.size=b:=by simpa [dG] using J
          omega)
 refine ⟨_,_,φ,_,rfl,s,E,O,aC,w5 ⟨w.heap.size,0,.inr ⟨by simp[ee],rfl,rfl⟩,by simp[aB.offAt],aT⟩,?_⟩;intro i u;have:i=n:=by simpa [K.ids] using u
 subst this;rw[gA H i _ i aR,if_pos rfl];rfl
theorem Zw [Env] (tab:cQ P cx) {T:bm} {x:K} (e:(A3 cx T x).go H n=some (r,aA,aI)) (h:cc φ ι w H) {v:az} (ai:x.rel φ ι w v) (fC: ∀i∈x.ids,(aE H i).live=true) (ea:iZ H n aI):
  cD φ ι w H n r aA aI ((Instr.box T v).run P w):=by
 unfold A3 at e;split at e
 ·rename_i i u;obtain ⟨y,H1,c8,L,aa⟩:=HM.go_bind_some e;clear e;obtain ⟨rfl,dy,g1,bo,tb⟩:=Nn L h (w7 ai) (λi u=>fC i (w6 i u));have q:=go_bif aa;clear aa;obtain ⟨aL,aa⟩:=q;simp only[HM.go,bH,cV]at aa;obtain ⟨rfl,rfl,rfl⟩:=aa;have kp:=ea.ghost g1;obtain ⟨lq,ao,av,aH,bb,aU,ck,ep,hz,iI,yn⟩:=ajf (T:=T) g1.rel bo aL tb kp.1 (kp.2 c8 (b7 _) (by omega)) rfl;injection bb with bb R2
  subst bb R2;exact ⟨_,_,av,aH,by simp[Instr.box,aqK],aU,g1.step.trans ck,g1.keep.trans ep,(g1.nx _).trans hz,iI,yn⟩
 ·simp[HM.go]at e
theorem aaZ (tab:cQ P cx) {T:bm} {z:K} (bI:cx.zeroRV 20 T=some z) (u: ∃i,cx.ti T=some i): ∃i v,cx.ti T=some i/\(∀w,(zeroValue T).run P w=.ok v w)/\v.cells.size=i.ty.size/\j8 v=i.ty.isAgg/\z.fits i.ty=true/\z.ids=[]/\ ∀φ ι w,z.rel φ ι w v:=by obtain ⟨i,u⟩:=u;obtain ⟨info,s,E,O⟩:=(tab T i u).info;obtain ⟨v,bb,aU,ck,ep,hz,iI⟩:=O z bI;exact ⟨i,v,u,λw=>by simp[zeroValue,typeInfo,s,bb],aU,ck,ep,hz,iI⟩
theorem amL [Env] (tab:cQ P cx) {T:bm} (e:(Of cx T).go H n=some (r,aA,aI)) (h:cc φ ι w H) (ea:iZ H n aI):
  cD φ ι w H n r aA aI ((Instr.alloc T true (.tuple #[])).run P w):=by
 unfold Of at e;split at e
 ·rename_i z bI;have u: ∃i,cx.ti T=some i:=by
   cases u:cx.ti T with
   |some i=>exact ⟨i,rfl⟩
   |none=>simp[A3,u,HM.go]at e
  obtain ⟨i,v,_,eL,_,_,_,fk,au⟩:=aaZ tab bI u;have:=Zw tab e h (au φ ι w) (by rw[fk];simp) ea;have aa:(Instr.alloc T true (.tuple #[])).run P w=(Instr.box T v).run P w:=by unfold Instr.alloc;simp[eL,Instr.box]
  rw[aa];exact this
 ·simp[HM.go]at e
end
end Go.X
