import Derived.Below
import Derived.Laws.OwnMore
import Derived.Laws.IdiomCopy
import Derived.Laws.MakeOwn
import Derived.Orders
import Derived.KernelRfl
import Derived.LoopN
import Derived.Laws.Strings
import Derived.Lib.ConvBytes
import Derived.Laws.NewFold
set_option linter.unusedVariables false
set_option linter.unusedSimpArgs false
namespace Go.X
theorem u {p:Prop} (h:p:=by omega):p:=h
theorem aD {p:Prop} (h:p:=by kernel_rfl):p:=h
theorem aU {p:Prop} (h:p:=by simp):p:=h
theorem fc {p:Prop} (h:p:=by decide):p:=h
abbrev aA:=Value
abbrev bm:=World
abbrev cA:=Program
abbrev bs:=TypeId
theorem aj {α:Sort _} (a b:α):(bif true then a else b)=a:=rfl
theorem av {α:Sort _} (a b:α):(bif false then a else b)=b:=rfl
theorem bN (b:Bool):(b&&b)=b:=Bool.and_self b
theorem bI (n:Nat):Int.toNat (n:Int)=n:=rfl
theorem bM {α:Type _} (a b:α):(some a=some b)=(a=b):=Option.some.injEq a b
theorem c0 {α:Type _} {β:Type _} (a:α) (b:β) (c:α) (I:β):((a,b)=(c,I))=(a=c∧b=I):=Prod.mk.injEq a b c I
theorem bQ (a b:Bool):((a&&b)=true)=(a=true∧b=true):=Bool.and_eq_true a b
theorem dS {p:Prop} [Decidable p]:(decide p=true)=p:=decide_eq_true_eq
theorem cK:(!true)=false:=rfl
theorem cH:(!false)=true:=rfl
theorem dJ {α:Type _} {l:List α} {n:Nat} (h:n<l.length):l[n]∈l:=List.getElem_mem h
theorem eu {α:Type _} {l:List α}:l.take l.length=l:=List.take_length
theorem eE {α:Type _} {i:Nat} {l:List α}:(l.take i).length=min i l.length:=List.length_take
theorem et {α:Type _} {a b:List α}:(a++b).length=a.length+b.length:=List.length_append
theorem gL {α:Type _} {a:α} {l:List α}:a∈a::l:=List.mem_cons_self
theorem gY {α:Type _} (y:α) {a:α} {l:List α} (h:a∈l):a∈y::l:=List.mem_cons_of_mem y h
theorem hZ {α:Type _} (p:α→Bool) (l:List α):(l.filter p).length<=l.length:=List.length_filter_le p l
theorem gl {α:Type _} {a b:α}:a∈[b]↔a=b:=List.mem_singleton
theorem ia {α:Type _} {a:α} {l:List α}:(a::l).length=l.length+1:=rfl
theorem e8 {α:Type _} {p:α→Bool} {a:α} {l:List α}:a∈l.filter p↔a∈l∧p a=true:=List.mem_filter
theorem dn {α:Type _} {a:α} {d t:List α}:a∈d++t↔a∈d∨a∈t:=List.mem_append
theorem eY {α:Type _} {a b:α} (h:some a=some b):a=b:=Option.some.inj h
theorem hx {α:Type _} {l:List α} {i:Nat} (h:i<l.length):l[i]? =some l[i]:=List.getElem?_eq_getElem h
theorem iJ {α:Type _} {i:Nat} {a:α} {l:List α}:l[i]? =some a↔∃h,l[i]=a:=List.getElem?_eq_some_iff
theorem ji {α:Type _} {xs:Array α} {i:Nat} {I:α}:xs.getD i I=xs[i]?.getD I:=Array.getD_eq_getD_getElem?
theorem kY {α:Type _} {i:Nat} {b:α} {xs:Array α}:xs[i]? =some b↔∃h,xs[i]=b:=Array.getElem?_eq_some_iff
theorem ic {α:Type _} {i:Nat} {l:List α} (h:l.length<=i):List.take i l=l:=List.take_of_length_le h
theorem fD {α:Type _} {p:α→Bool} {l:List α}:l.all p=true↔∀x,x∈l→p x=true:=List.all_eq_true
theorem ib {α:Type _} {β:Type _} {b:β} {x:Option α} {f:α→β}:Option.map f x=some b↔∃a,x=some a∧f a=b:=Option.map_eq_some_iff
theorem jQ {α:Type _} {l:List α} {i:Nat} {a:α}:l.getD i a=l[i]?.getD a:=List.getD_eq_getElem?_getD
theorem fe {α:Type _} {b:α} {l:List α} {a:α}:a∈b::l↔a=b∨a∈l:=List.mem_cons
theorem kZ {α:Type _} {l:List α} (h:l.length=0):l=[]:=List.eq_nil_of_length_eq_zero h
theorem hg {n m:Nat} (h:n.ble m=true):n<=m:=Nat.le_of_ble_eq_true h
theorem gZ {n m:Nat} (k:Nat) (h:n<=m):n*k<=m*k:=Nat.mul_le_mul_right k h
theorem eS (b:Bool):((!b)=true)=(b=false):=Bool.not_eq_true' b
theorem iz {α:Type _} {xs:Array α}:xs.toList.length=xs.size:=Array.length_toList
theorem ca (n:Nat):n<=n:=Nat.le_refl n
theorem l2 {α:Type _} {i:Nat} {l:List α} (h:i<l.length):List.drop i l=l[i]::List.drop (i+1) l:=List.drop_eq_getElem_cons h
theorem cf (h:Decidable True):@decide True h=true:=decide_true h
inductive az where
 |bool |int (k:IntKind)|str |opq |unit |list (t:az)|pair (a b:az)
 deriving DecidableEq
@[reducible] def az.den:az->Type
 | .bool=>Bool | .int _=>Int | .str=>List UInt8 | .opq=>Unit | .unit=>Unit
 | .list t=>List t.den | .pair a b=>a.den×b.den
def az.size:az->Nat
 | .unit=>0 | .pair a b=>a.size+b.size |_=>1
def az.isAgg:az->Bool
 | .unit=>true | .pair _ _=>true |_=>false
def az.zero:(t:az)->t.den
 | .bool=>false | .int _=>(0:Int)| .str=>[] | .opq=>()| .unit=>()| .list _=>[] | .pair a b=>(a.zero,b.zero)
structure eP where
 t:az
 x:t.den
def az.cast? (t ae:az) (x:t.den):Option ae.den:=if h:t=ae then some (h▸x) else none
def az.nth:az->Nat->Option az
 | .pair a _,0=>some a | .pair _ b,i+1=>b.nth i |_,_=>none
def az.offs:az->Nat->Nat
 | .pair _ _,0=>0 | .pair a b,i+1=>a.size+b.offs i |_,_=>0
def az.proj:(t:az)->t.den->Nat->Option eP
 | .pair a _,x,0=>some ⟨a,x.1⟩| .pair _ b,x,i+1=>b.proj x.2 i |_,_,_=>none
def eP.at_:eP->List Nat->Option eP
 |I,[]=>some I
 |I,i::p=>match I.t.proj I.x i with
  |some e=>e.at_ p
  |none=>none
def az.at_:az->List Nat->Option az
 |t,[]=>some t
 |t,i::p=>match t.nth i with
  |some e=>e.at_ p
  |none=>none
def az.offAt:az->List Nat->Nat
 |_,[]=>0
 |t,i::p=>t.offs i+(match t.nth i with |some e=>e.offAt p |none=>0)
def az.setAt:(t:az)->t.den->List Nat->eP->Option t.den
 |t,_,[],v=>v.t.cast? t v.x
 | .pair a _,x,0::p,v=>(a.setAt x.1 p v).map λy=>(y,x.2)
 | .pair _ b,x,(i+1)::p,v=>(b.setAt x.2 (i::p) v).map λy=>(x.1,y)
 |_,_,_,_=>none
def az.cmp:az->Bool
 | .bool=>true | .int _=>true | .str=>true | .unit=>true | .pair a b=>a.cmp&&b.cmp |_=>false
def az.eqb:(t:az)->t.den->t.den->Bool
 | .bool,x,y=>x==y
 | .int _,x,y=>decide ((x:Int)=y)
 | .str,x,y=>decide ((x:List UInt8)=y)
 | .pair a b,x,y=>a.eqb x.1 y.1&&b.eqb x.2 y.2
 |_,_,_=>true
def az.chain:az->Bool
 | .unit=>true | .pair _ b=>b.chain |_=>false
def az.parts:(t:az)->t.den->List eP
 | .pair a b,x=>⟨a,x.1⟩::b.parts x.2
 |_,_=>[]
inductive DT (α:Type):Type 1 where
 |leaf (a:α)
 |fail
 |br (b:Bool) (x y:DT α)
 |opt {β:Type} (o:Option β) (k:β->DT α)
 |alt {β γ:Type} (o:Option (β⊕γ)) (k:β->DT α) (h:γ->DT α)
namespace DT
variable {α β:Type}
def val:DT α->Option α
 |leaf a=>some a
 |fail=>none
 |br b x y=>bif b then x.val else y.val
 |opt o k=>match o with |some r=>(k r).val |none=>none
 |alt o k h=>match o with |some (.inl r)=>(k r).val |some (.inr r)=>(h r).val |none=>none
def bind:DT α->(α->DT β)->DT β
 |leaf a,f=>f a
 |fail,_=>fail
 |br b x y,f=>br b (x.bind f) (y.bind f)
 |opt o k,f=>opt o λr=>(k r).bind f
 |alt o k h,f=>alt o (λr=>(k r).bind f) (λr=>(h r).bind f)
def map (f:α->β) (x:DT α):DT β:=x.bind λa=>leaf (f a)
def ofOpt (o:Option α):DT α:=match o with |some a=>leaf a |none=>fail
end DT
inductive K where
 |undef
 |dat (t:az) (x:t.den)
 |clip (t:az) (xs:List t.den)
 |nilv
 |nils (e:bs) (t:az)
 |own (t:az) (o:Nat)
 |view (t:az) (o:Nat) (aR E:Nat)
 |ptr (o:Nat) (t:az) (i:Nat) (path:List Nat)
 |fptr (t:az) (x:t.den)
 |agg (l:List K)
 |tup (l:List K)
 |fn (f:FuncId) (first lG:List K)
 |iface (T:bs) (r:K)
 |nilI |nilF |nilP
 |atl (n:Nat)
 |lim (t:az) (xs:List t.den) (c:Nat)
 |yld (Y:Nat) (o:Nat)
 |gp (b off:Nat) (l:List (Option Nat))
 |dfr (f:FuncId) (a b:List K) (t:az) (xs:List t.den)
inductive aH where
 |hole
 |gone
 |arr (e:bs) (t:az) (xs:List t.den) (fz:Bool)
 |box (T:bs) (t:az) (r:K)
 |iter (d:List UInt8) (pos:Int)
 |loop (Y:Nat) (R:List (Nat×K)) (p:Int)
abbrev bS:=List (Nat×K)
structure bX where
 regs:bS
 heap:List aH
def bS.get:bS->Nat->Option K
 |[],_=>none
 |(e,d)::l,I=>bif Nat.beq I e then some d else bS.get l I
def bS.put:bS->Nat->K->bS
 |[],I,r=>[(I,r)]
 |(e,d)::l,I,r=>bif Nat.beq I e then (I,r)::l else bif Nat.blt I e then (I,r)::(e,d)::l else (e,d)::bS.put l I r
inductive HM (α:Type):Type 1 where
 |ret (a:α)
 |fail
 |br (b:Bool) (x y:HM α)
 |opt {β:Type} (o:Option β) (k:β->HM α)
 |alt {β γ:Type} (o:Option (β⊕γ)) (k:β->HM α) (h:γ->HM α)
 |rdc (o:Nat) (k:aH->HM α)
 |frz (o:Nat) (k:HM α)
 |rdw (o:Nat) (k:aH->HM α)
 |wr (o:Nat) (b:aH) (k:HM α)
 |nw (b:aH) (k:Nat->HM α)
 |nxt (k:Nat->HM α)
structure dk where
 rd:List Nat
 fz:List Nat
 wr:List Nat
def dk.none:dk:=⟨[],[],[]⟩
def aH.mask:aH->aH
 | .arr e t xs _=>.arr e t xs false
 |b=>b
def aH.freeze:aH->aH
 | .arr e t xs _=>.arr e t xs true
 |b=>b
def aG (h:List aH) (o:Nat):aH:=h.getD o .hole
def cc:List aH->Nat->aH->List aH
 |[],0,b=>[b]
 |[],_+1,_=>[]
 |_::l,0,b=>b::l
 |a::l,n+1,b=>a::cc l n b
namespace HM
variable {α β:Type}
def bind:HM α->(α->HM β)->HM β
 |ret a,f=>f a
 |fail,_=>fail
 |br b x y,f=>br b (x.bind f) (y.bind f)
 |opt o k,f=>opt o λr=>(k r).bind f
 |alt o k h,f=>alt o (λr=>(k r).bind f) (λr=>(h r).bind f)
 |rdc o k,f=>rdc o λb=>(k b).bind f
 |frz o k,f=>frz o (k.bind f)
 |rdw o k,f=>rdw o λb=>(k b).bind f
 |wr o b k,f=>wr o b (k.bind f)
 |nw b k,f=>nw b λi=>(k i).bind f
 |nxt k,f=>nxt λi=>(k i).bind f
def map (f:α->β) (x:HM α):HM β:=x.bind λa=>ret (f a)
def ofOpt (o:Option α):HM α:=match o with |some a=>ret a |none=>fail
def chk (b:Bool) (x:HM α):HM α:=br b x fail
def ofDT:DT α->HM α
 | .leaf a=>ret a
 | .fail=>fail
 | .br b x y=>br b (ofDT x) (ofDT y)
 | .opt o k=>opt o λr=>ofDT (k r)
 | .alt o k h=>alt o (λr=>ofDT (k r)) (λr=>ofDT (h r))
def run:HM α->List aH->Nat->dk->DT (α×List aH×Nat×dk)
 |ret a,h,n,p=>.leaf (a,h,n,p)
 |fail,_,_,_=>.fail
 |br b x y,h,n,p=>.br b (x.run h n p) (y.run h n p)
 |opt o k,h,n,p=>.opt o λr=>(k r).run h n p
 |alt o k l,h,n,p=>.alt o (λr=>(k r).run h n p) (λr=>(l r).run h n p)
 |rdc o k,h,n,p=>(k (aG h o).mask).run h n ⟨o::p.rd,p.fz,p.wr⟩
 |frz o k,h,n,p=>k.run (cc h o (aG h o).freeze) n ⟨p.rd,o::p.fz,p.wr⟩
 |rdw o k,h,n,p=>(k (aG h o)).run h n ⟨p.rd,p.fz,o::p.wr⟩
 |wr o b k,h,n,p=>k.run (cc h o b) n ⟨p.rd,p.fz,o::p.wr⟩
 |nw b k,h,n,p=>(k n).run (cc h n b) (n+1) ⟨p.rd,p.fz,n::p.wr⟩
 |nxt k,h,n,p=>(k n).run h n p
end HM
structure gq where
 ty:az
 elem:bs:=0
 fields:List bs:=[]
 bytes:Nat:=8
 cmp:Bool:=false
 arr:Bool:=false
 nil:Bool:=false
 meths:List (String×Nat):=[]
structure cm where
 tab:List (Nat×gq)
 rawArg:FuncId->Nat->Bool
def cm.ti (cx:cm) (T:bs):Option gq:=go cx.tab
where
 go:List (Nat×gq)->Option gq
  |[]=>none
  |(U,i)::l=>bif Nat.beq T U then some i else go l
def adI {α:Type}:List (Option α)->Option (List α)
 |[]=>some []
 |o::l=>match o,adI l with
  |some a,some m=>some (a::m)
  |_,_=>none
def cm.zeroRV (cx:cm):Nat->bs->Option K
 |0,_=>none
 |n+1,T=>match cx.ti T with
  |none=>none
  |some i=>match i.fields with
   |[]=>match i.ty with
    | .list t=>some (.nils i.elem t)
    | .opq=>bif i.nil then some .nilI else bif i.arr then some .nilF else none
    |t=>some (.dat t t.zero)
   |f::dz=>match adI ((f::dz).map (cx.zeroRV n)) with
    |some l=>some (.agg l)
    |none=>none
def G7:aA->K
 | .bool b=>.dat .bool b
 | .int k n=>.dat (.int k) n
 | .string d=>.dat .str d.data.toList
 | .slice none 0 0=>.nilv
 | .pointer none=>.nilP
 | .nilFunc=>.nilF
 | .nilIface=>.nilI
 |_=>.undef
def cm.typ (cx:cm) (T:bs) (r:K):K:=match r with
 | .nilv=>match cx.ti T with
  |some i=>match i.ty with
   | .list t=>.nils i.elem t
   |_=>.undef
  |none=>.undef
 |r=>r
mutual
def hr:K->HM eP
 | .dat t x=>.ret ⟨t,x⟩
 | .clip t xs=>.ret ⟨.list t,xs⟩
 | .lim t xs _=>.ret ⟨.list t,xs⟩
 | .nils _ t=>.ret ⟨.list t,[]⟩
 | .own t o=>.frz o (.rdc o λb=>match b with
  | .arr _ ae xs _=>match ae.list.cast? t.list xs with
   |some a1=>.ret ⟨.list t,a1⟩
   |none=>.fail
  |_=>.fail)
 | .view t o aR E=>.frz o (.rdc o λb=>match b with
  | .arr _ ae xs _=>match ae.list.cast? t.list xs with
   |some a1=>.ret ⟨.list t,(List.take E a1).drop aR⟩
   |none=>.fail
  |_=>.fail)
 | .agg l=>uV l
 |_=>.fail
def uV:List K->HM eP
 |[]=>.ret ⟨.unit,()⟩
 |r::l=>(hr r).bind λI=>(uV l).bind λe=>.ret ⟨.pair I.t e.t,(I.x,e.x)⟩
end
def xa (t:az) (r:K):HM t.den:=(hr r).bind λI=>HM.ofOpt (I.t.cast? t I.x)
mutual
def K.fits:K->az->Bool
 | .dat ae _,t=>decide (ae=t)
 | .nils _ ae,t=>decide (az.list ae=t)
 | .own ae _,t=>decide (az.list ae=t)
 | .agg l,t=>K.fitsL l t
 | .ptr ..,t=>decide (t=.opq)
 | .fptr ..,t=>decide (t=.opq)
 | .fn ..,t=>decide (t=.opq)
 | .yld ..,t=>decide (t=.opq)
 | .iface ..,t=>decide (t=.opq)
 | .nilI,t=>decide (t=.opq)
 | .nilF,t=>decide (t=.opq)
 | .nilP,t=>decide (t=.opq)
 |_,_=>false
def K.fitsL:List K->az->Bool
 |[],t=>decide (t=.unit)
 |r::l,t=>match t with
  | .pair a b=>r.fits a&&K.fitsL l b
  |_=>false
end
def K.comp:K->Nat->Option K
 | .agg l,i=>l[i]?
 | .dat t x,i=>(t.proj x i).map λI=>.dat I.t I.x
 |_,_=>none
def K.atPath:K->List Nat->Option K
 |r,[]=>some r
 |r,i::p=>match r.comp i with
  |some d=>d.atPath p
  |none=>none
def K.open_:K->Option (List K)
 | .agg l=>some l
 | .dat t x=>bif t.chain then some ((t.parts x).map λI=>.dat I.t I.x) else none
 |_=>none
def K.setPath:List Nat->K->K->Option K
 |[],_,v=>some v
 |i::p,r,v=>match r.open_ with
  |some l=>match l[i]? with
   |some d=>match K.setPath p d v with
    |some gJ=>some (.agg (l.set i gJ))
    |none=>none
   |none=>none
  |none=>none
def fl (l:List UInt8):List Int:=l.map λb=>(b.toNat:Int)
def qv (l:List Int):List UInt8:=l.map λn=>UInt8.ofNat n.toNat
def bC:Nat:=140737488355328
def oq (r:K):HM eP:=match r with
 | .own t o=>.rdc o λb=>match b with
  | .arr _ ae xs _=>.ret ⟨.list ae,xs⟩
  |_=>.fail
 | .view t o aR E=>.rdc o λb=>match b with
  | .arr _ ae xs _=>bif decide (ae=t) then .ret ⟨.list ae,(xs.take E).drop aR⟩ else .fail
  |_=>.fail
 | .dat .str d=>.ret ⟨.list (.int .u8),fl d⟩
 |r=>hr r
def PO (cx:cm) (T:bs):Bool:=match cx.ti T with
 |some j=>decide (j.ty=.str)
 |none=>false
def lenOf (r:K):HM Nat:=match r with
 | .dat (.list _) xs=>.ret xs.length
 | .dat .str xs=>.ret xs.length
 | .clip _ xs=>.ret xs.length
 | .nils _ _=>.ret 0
 | .own t o=>.rdc o λb=>match b with
  | .arr _ _ xs _=>.ret xs.length
  |_=>.fail
 | .view _ _ aR E=>.ret (E-aR)
 |_=>.fail
def BE (op:BinOp) (k:IntKind) (a b:Int):HM K:=
 match op with
 | .add=>.ret (.dat (.int k) (k.wrap (a+b)))
 | .sub=>.ret (.dat (.int k) (k.wrap (a-b)))
 | .mul=>.ret (.dat (.int k) (k.wrap (a*b)))
 | .quo=>.br (decide (b=0)) .fail (.ret (.dat (.int k) (k.wrap (a.tdiv b))))
 | .rem=>.br (decide (b=0)) .fail (.ret (.dat (.int k) (a.tmod b)))
 | .and=>.ret (.dat (.int k) (k.wrap (BitVec.ofInt k.bits a &&& BitVec.ofInt k.bits b).toNat))
 | .or=>.ret (.dat (.int k) (k.wrap (BitVec.ofInt k.bits a ||| BitVec.ofInt k.bits b).toNat))
 | .xor=>.ret (.dat (.int k) (k.wrap (BitVec.ofInt k.bits a ^^^ BitVec.ofInt k.bits b).toNat))
 | .andNot=>.ret (.dat (.int k) (k.wrap (BitVec.ofInt k.bits a &&& ~~~(BitVec.ofInt k.bits b)).toNat))
 | .eql=>.ret (.dat .bool (decide (a=b)))
 | .neq=>.ret (.dat .bool (!decide (a=b)))
 | .lss=>.ret (.dat .bool (decide (a<b)))
 | .leq=>.ret (.dat .bool (decide (a<=b)))
 | .gtr=>.ret (.dat .bool (decide (a>b)))
 | .geq=>.ret (.dat .bool (decide (a>=b)))
 |_=>.fail
def Hi (op:BinOp) (k:IntKind) (a b:Int):HM K:=
 match op with
 | .shl=>.br (decide (b<0)) .fail (.ret (.dat (.int k) (k.wrap (a*2^(min b.toNat k.bits)))))
 | .shr=>.br (decide (b<0)) .fail (.ret (.dat (.int k) (a.fdiv (2^(min b.toNat k.bits)))))
 |_=>.fail
def Qd (op:BinOp) (x y:List UInt8):HM K:=
 match op with
 | .add=>.chk (decide (x.length+y.length<=bC)) (.ret (.dat .str (x++y)))
 | .eql=>.ret (.dat .bool (decide (x=y)))
 | .neq=>.ret (.dat .bool (!decide (x=y)))
 | .lss=>.ret (.dat .bool (Op.bytesLess x y))
 | .leq=>.ret (.dat .bool (Op.bytesLess x y||decide (x=y)))
 | .gtr=>.ret (.dat .bool (!(Op.bytesLess x y||decide (x=y))))
 | .geq=>.ret (.dat .bool (!(Op.bytesLess x y)))
 |_=>.fail
def cm.isTy (cx:cm) (T:bs) (t:az):Bool:=match cx.ti T with
 |some i=>decide (i.ty=t)
 |none=>false
def cm.isTyO (cx:cm) (T:bs) (t:Option az):Bool:=match t with
 |some t=>cx.isTy T t
 |none=>false
def P0 (cx:cm) (op:BinOp) (T:bs) (x y:K):HM K:=
 match x,y with
 | .dat (.int k) a,.dat (.int eD) b=>match op with
  | .shl=>Hi op k a b
  | .shr=>Hi op k a b
  |_=>bif decide (k=eD) then BE op k a b else .fail
 | .dat .str a,.dat .str b=>Qd op a b
 | .dat (.int k) a,.atl m=>match op with
  | .gtr=>bif decide (k=.i64) then .chk (decide (a<=(m:Int))) (.ret (.dat .bool false)) else .fail
  |_=>.fail
 | .dat .bool a,.dat .bool b=>bif cx.isTy T .bool then match op with
  | .eql=>.ret (.dat .bool (a==b))
  | .neq=>.ret (.dat .bool (!(a==b)))
  |_=>.fail
  else .fail
 |x,y=>match cx.ti T with
  |some i=>bif i.cmp&&i.ty.cmp&&i.ty.isAgg then (xa i.ty x).bind λa=>(xa i.ty y).bind λb=>match op with
    | .eql=>.ret (.dat .bool (i.ty.eqb a b))
    | .neq=>.ret (.dat .bool (!(i.ty.eqb a b)))
    |_=>.fail
   else .fail
  |none=>.fail
def Qb (cx:cm) (op:BinOp) (T:bs) (x:K):HM K:=match cx.ti T with
 |some i=>bif i.nil then (match x,op with
  | .iface _ _,.eql=>.ret (.dat .bool false)
  | .iface _ _,.neq=>.ret (.dat .bool true)
  | .nilI,.eql=>.ret (.dat .bool true)
  | .nilI,.neq=>.ret (.dat .bool false)
  |_,_=>.fail) else .fail
 |none=>.fail
def vZ:List (String×Nat)->String->Option Nat
 |[],_=>none
 |(n,f)::l,nm=>bif n==nm then some f else vZ l nm
def LG (op:UnOp) (x:K):HM K:=match op,x with
 | .neg,.dat (.int k) a=>.ret (.dat (.int k) (k.wrap (0-a)))
 | .not,.dat .bool a=>.ret (.dat .bool (!a))
 | .xor,.dat (.int k) a=>.ret (.dat (.int k) (k.wrap (BitVec.ofInt k.bits (if k.signed then-1 else k.max) ^^^ BitVec.ofInt k.bits a).toNat))
 |_,_=>.fail
def K.isStr:K->Bool
 | .dat .str _=>true |_=>false
def PD (cx:cm) (S T:bs) (x:K):HM K:=match cx.ti S,cx.ti T with
 |some i,some j=>match i.ty,j.ty with
  | .int _,.int k=>match x with
   | .dat (.int _) a=>.ret (.dat (.int k) (k.wrap a))
   |_=>.fail
  | .str,.str=>match x with
   | .dat .str a=>.ret (.dat .str a)
   |_=>.fail
  | .str,.list (.int .u8)=>match x with
   | .dat .str a=>.chk (decide (a.length<=bC)) (.nw (.arr j.elem (.int .u8) (fl a) false) λo=>.ret (.own (.int .u8) o))
   |_=>.fail
  | .list (.int .u8),.str=>bif x.isStr then .fail else (oq x).bind λI=>(HM.ofOpt (I.t.cast? (.list (.int .u8)) I.x)).bind λl=>.ret (.dat .str (qv l))
  |_,_=>.fail
 |_,_=>.fail
def uX:K->Option Int
 | .dat (.int _) a=>some a
 |_=>none
def mB:K->Option Bool
 | .dat .bool a=>some a
 |_=>none
def xO:Option K->Option (Option Int)
 |none=>some none
 |some r=>(uX r).map some
def OU (cx:cm) (T:bs) (x:K) (aR E fS:Option Int):HM K:=
 match x with
 | .dat .str d=>match fS with
  |some _=>.fail
  |none=>bif cx.isTy T .str then
   .chk (decide (0<=aR.getD 0)&&decide (aR.getD 0<=E.getD (d.length:Int))&&decide (E.getD (d.length:Int)<=(d.length:Int))) (.ret (.dat .str ((d.take (E.getD (d.length:Int)).toNat).drop (aR.getD 0).toNat)))
   else .fail
 | .own t o=>match fS with
  |some m=>match E with
   |none=>.fail
   |some h=>bif cx.isTy T (.list t) then .rdc o λb=>match b with
    | .arr _ ae xs _=>bif decide (ae=t) then
     .chk (decide (0<=aR.getD 0)&&decide (aR.getD 0<=h)&&decide (h<=m)&&decide (m<=(xs.length:Int))) (.ret .undef)
     else .fail
    |_=>.fail
    else .fail
  |none=>bif cx.isTy T (.list t) then .rdc o λb=>match b with
   | .arr _ ae xs _=>bif decide (ae=t) then
    .chk (decide (0<=aR.getD 0)&&decide (aR.getD 0<=E.getD (xs.length:Int))&&decide (E.getD (xs.length:Int)<=(xs.length:Int))) (.ret (.view t o (aR.getD 0).toNat (E.getD (xs.length:Int)).toNat))
    else .fail
   |_=>.fail
   else .fail
 | .view t o a z=>match fS with
  |some _=>.fail
  |none=>bif cx.isTy T (.list t) then .rdc o λb=>match b with
   | .arr _ ae xs _=>bif decide (ae=t) then
    .chk (decide (0<=aR.getD 0)&&decide (aR.getD 0<=E.getD ((z-a:Nat):Int))&&decide (E.getD ((z-a:Nat):Int)<=((xs.length-a:Nat):Int))) (.ret (.view t o (a+(aR.getD 0).toNat) (a+(E.getD ((z-a:Nat):Int)).toNat)))
    else .fail
   |_=>.fail
   else .fail
 | .nils e t=>match fS with
  |some _=>.fail
  |none=>bif cx.isTy T (.list t) then .chk (decide (aR.getD 0=0)&&decide (E.getD 0=0)) (.ret (.nils e t)) else .fail
 |x=>(hr x).bind λI=>match I with
  |⟨.list t,xs⟩=>bif cx.isTy T (.list t) then
   match fS with
   |none=>.chk (decide (0<=aR.getD 0)&&decide (aR.getD 0<=E.getD (xs.length:Int))&&decide (E.getD (xs.length:Int)<=(xs.length:Int))) (.ret (.dat (.list t) ((xs.take (E.getD (xs.length:Int)).toNat).drop (aR.getD 0).toNat)))
   |some m=>match E with
    |some h=>.chk (decide (0<=aR.getD 0)&&decide (aR.getD 0<=h)&&decide (h<=(xs.length:Int))&&decide (h=m)) (.ret (.clip t ((xs.take h.toNat).drop (aR.getD 0).toNat)))
    |none=>.fail
   else .fail
  |_=>.fail
def Pw (cx:cm) (T:bs) (x:K) (aR E fS:Option Int):HM K:=
 match x,aR,E,fS with
 | .clip t xs,none,some h,none=>bif cx.isTy T (.list t) then .chk (decide (0<=h)&&decide (h<=(xs.length:Int))) (.ret (.lim t (xs.take h.toNat) xs.length)) else .fail
 |x,aR,E,fS=>OU cx T x aR E fS
def u0 {α:Type} (k:Nat) (f:Nat->HM α):Nat->HM α
 |0=>.fail
 |n+1=>.br (Nat.beq k n) (f n) (u0 k f n)
def Nx (cx:cm) (T:bs) (x:K) (i:Int):HM K:=
 match x with
 | .own t o=>bif cx.isTy T (.list t) then .rdc o λb=>match b with
  | .arr _ ae xs _=>bif decide (ae=t) then .chk (decide (0<=i)&&decide (i<(xs.length:Int))) (.ret (.ptr o t i.toNat [])) else .fail
  |_=>.fail
  else .fail
 | .view t o aR E=>bif cx.isTy T (.list t) then .chk (decide (0<=i)&&decide (i<((E-aR:Nat):Int))) (.ret (.ptr o t (aR+i.toNat) [])) else .fail
 | .ptr o t j p=>bif cx.isTyO T (t.at_ p) then match cx.ti T with
  |some ti=>bif ti.arr&&ti.ty.isAgg then .chk (decide (0<=i)&&decide (i<(ti.fields.length:Int))) (u0 i.toNat (λk=>.ret (.ptr o t j (p++[k]))) ti.fields.length) else .fail
  |none=>.fail
  else .fail
 | .fptr t v=>bif cx.isTy T t then match cx.ti T with
  |some ti=>bif ti.arr&&ti.ty.isAgg then .chk (decide (0<=i)&&decide (i<(ti.fields.length:Int))) (u0 i.toNat (λk=>(HM.ofOpt (t.proj v k)).bind λI=>.ret (.fptr I.t I.x)) ti.fields.length) else .fail
  |none=>.fail
  else .fail
 | .gp b off l=>match cx.ti T with
  |some ti=>bif ti.arr&&ti.ty.isAgg then .chk (decide (0<=i)&&decide (i<(ti.fields.length:Int))) (u0 i.toNat (λk=>.ret (.gp b (off+ti.ty.offs k) (l.drop (ti.ty.offs k)))) ti.fields.length) else .fail
  |none=>.fail
 | .dat (.list t) xs=>bif cx.isTy T (.list t) then .chk (decide (0<=i)&&decide (i<(xs.length:Int))) (.ret (.fptr t (xs.getD i.toNat t.zero))) else .fail
 | .clip t xs=>bif cx.isTy T (.list t) then .chk (decide (0<=i)&&decide (i<(xs.length:Int))) (.ret (.fptr t (xs.getD i.toNat t.zero))) else .fail
 |_=>.fail
def arm (cx:cm) (T:bs) (x:K) (i:Int):HM K:=match x with
 | .dat .str d=>bif cx.isTy T .str then .chk (decide (0<=i)&&decide (i<(d.length:Int))) (.ret (.dat (.int .u8) ((d.getD i.toNat 0).toNat:Int))) else .fail
 |_=>.fail
def Nv (cx:cm) (T:bs) (x:K) (f:Nat):HM K:=match cx.ti T with
 |some ti=>bif !ti.arr&&ti.ty.isAgg&&Nat.blt f ti.fields.length then match x with
  | .ptr o t j p=>bif cx.isTyO T (t.at_ p) then .ret (.ptr o t j (p++[f])) else .fail
  | .fptr t v=>bif cx.isTy T t then (HM.ofOpt (t.proj v f)).bind λI=>.ret (.fptr I.t I.x) else .fail
  |_=>.fail
  else .fail
 |none=>.fail
def Pk (cx:cm) (T:bs) (x:K) (f:Nat):HM K:=match cx.ti T with
 |some i=>bif !i.arr&&i.ty.isAgg&&Nat.blt f i.fields.length&&x.fits i.ty then HM.ofOpt (x.comp f) else .fail
 |none=>.fail
def aeL:Option Nat->K
 |some f=>.fn f [] [] |none=>.nilF
def Bm (cx:cm) (T:bs) (a:K):HM K:=match a with
 | .gp _ _ l=>bif cx.isTy T .opq then (HM.ofOpt l.head?).bind λx=>.ret (aeL x) else .fail
 | .fptr t v=>bif cx.isTy T t then .ret (.dat t v) else .fail
 | .ptr o d i p=>bif cx.isTyO T (d.at_ p) then .rdc o λb=>match b with
  | .arr _ t xs _=>bif decide (d=t) then (HM.ofOpt (eP.at_ ⟨t,xs.getD i t.zero⟩ p)).bind λI=>.ret (.dat I.t I.x) else .fail
  | .box _ t r=>bif decide (d=t) then HM.ofOpt (r.atPath p) else .fail
  |_=>.fail
  else .fail
 |_=>.fail
def BG (v:K):HM K:=match v with
 | .view ..=>(hr v).bind λI=>.ret (.dat I.t I.x)
 | .clip t xs=>.ret (.dat (.list t) xs)
 |v=>.ret v
def Py (cx:cm) (T:bs) (a v:K):HM K:=match a with
 | .ptr o d i p=>bif cx.isTyO T (d.at_ p) then .rdc o λb=>match b with
  | .arr _ _ _ _=>(hr v).bind λI=>.rdw o λb=>match b with
   | .arr e t xs fz=>bif decide (d=t)&& !fz&&cx.isTy T I.t then
     (HM.ofOpt (t.setAt (xs.getD i t.zero) p I)).bind λy=>.wr o (.arr e t (xs.set i y) false) (.ret .undef)
    else .fail
   |_=>.fail
  | .box _ _ _=>(BG v).bind λv=>.rdw o λb=>match b with
   | .box U t r=>bif decide (d=t) then match t.at_ p with
    |some ae=>bif v.fits ae then (HM.ofOpt (r.setPath p v)).bind λgX=>.wr o (.box U t gX) (.ret .undef) else .fail
    |none=>.fail
    else .fail
   |_=>.fail
  |_=>.fail
  else .fail
 |_=>.fail
def By (cx:cm) (T:bs) (v:K):HM K:=match cx.ti T with
 |some i=>(BG (cx.typ T v)).bind λv=>bif v.fits i.ty then .nw (.box T i.ty v) λo=>.ret (.ptr o i.ty 0 []) else .fail
 |none=>.fail
def O6 (cx:cm) (T:bs):HM K:=match cx.zeroRV 20 T with
 |some v=>By cx T v
 |none=>.fail
def A6 (cx:cm) (T:bs) (parts:List (Nat×K)):HM K:=match cx.ti T,cx.zeroRV 20 T with
 |some i,some (.agg l)=>go i l parts
 |_,_=>.fail
where
 go (i:gq):List K->List (Nat×K)->HM K
  |l,[]=>.ret (.agg l)
  |l,(j,v)::r=>match i.fields[j]?,i.ty.nth j with
   |some U,some ae=>(BG (cx.typ U v)).bind λv=>bif v.fits ae then go i (l.set j v) r else .fail
   |_,_=>.fail
def Ea (cx:cm) (T:bs) (len:Nat) (parts:List (Nat×K)):HM K:=match cx.ti T with
 |some i=>match i.ty with
  | .list t=>bif Nat.ble (len*t.size) 100000 then (go t (List.replicate len t.zero) parts).bind λxs=>.nw (.arr i.elem t xs false) λo=>.ret (.own t o) else .fail
  |_=>.fail
 |none=>.fail
where
 go (t:az):List t.den->List (Nat×K)->HM (List t.den)
  |xs,[]=>.ret xs
  |xs,(j,v)::r=>match xs[j]? with
   |some _=>(xa t v).bind λy=>go t (xs.set j y) r
   |none=>.fail
def ND (cx:cm) (T:bs) (n c:Int):HM K:=match cx.ti T with
 |some i=>match i.ty with
  | .list t=>.chk (decide (0<=n)&&decide (n<=c)&&decide (c*i.bytes<=(bC:Int))) (.nw (.arr i.elem t (List.replicate n.toNat t.zero) false) λo=>.ret (.own t o))
  |_=>.fail
 |none=>.fail
def qS (cx:cm) (T:bs):Bool:=match cx.ti T with
 |some j=>match j.ty with
  | .list _=>true
  | .str=>true
  |_=>false
 |none=>false
def Vw (x:K) (o:Nat):Bool:=match x with
 | .view _ dV _ _=>Nat.beq dV o
 |_=>false
def O7 (cx:cm) (T dY:bs) (d x:K):HM K:=match d,x with
 | .nils _ _,.dat (.int k) n=>bif cx.isTy dY (.int k) then match cx.ti T with
  |some i=>match i.ty with
   | .list t=>.chk (decide (0<n)&&decide (n*i.bytes<=(bC:Int))) (.nw (.arr i.elem t (List.replicate n.toNat t.zero) false) λo=>.ret (.own t o))
   |_=>.fail
  |none=>.fail
  else .fail
 |_,_=>.fail
def PB (cx:cm) (T dY:bs) (d x:K):HM K:=match d,x with
 | .lim ae xs c,.dat (.int k) n=>bif cx.isTy dY (.int k) then match cx.ti T with
  |some i=>match i.ty with
   | .list t=>(HM.ofOpt (ae.list.cast? t.list xs)).bind λxs=>.chk (decide (0<n)&&decide ((c:Int)<xs.length+n)&&decide ((xs.length+n)*i.bytes<=(bC:Int))) (.nw (.arr i.elem t (xs++List.replicate n.toNat t.zero) false) λo=>.ret (.own t o))
   |_=>.fail
  |none=>.fail
  else .fail
 |d,x=>O7 cx T dY d x
def OM (cx:cm) (T dY:bs) (d x:K):HM K:=bif qS cx dY then match cx.ti T with
 |some i=>match i.ty with
  | .list t=>(oq x).bind λI=>(HM.ofOpt (I.t.cast? (.list t) I.x)).bind λa1=>match d with
   | .nils _ _=>.chk (decide (a1.length*i.bytes<=bC)) (.nw (.arr i.elem t a1 false) λo=>.ret (.own t o))
   | .own _ o=>.rdw o λb=>match b with
    | .arr e ae xs fz=>(HM.ofOpt (ae.list.cast? t.list xs)).bind λxs=>bif Nat.beq e i.elem then
      .chk (decide ((xs.length+a1.length)*i.bytes<=bC)) (.wr o .gone (.nw (.arr e t (xs++a1) fz) λo=>.ret (.own t o)))
     else .fail
    |_=>.fail
   | .view _ o 0 E=>bif Vw x o then .rdw o λb=>match b with
    | .arr e ae xs fz=>(HM.ofOpt (ae.list.cast? t.list xs)).bind λxs=>bif Nat.beq e i.elem&& !fz then
      .chk (decide (E+a1.length<=xs.length)) (.wr o (.arr e t (xs.take E++a1++xs.drop (E+a1.length)) false) (.ret (.view t o 0 (E+a1.length))))
     else .fail
    |_=>.fail
    else .rdw o λb=>match b with
    | .arr e ae xs fz=>(HM.ofOpt (ae.list.cast? t.list xs)).bind λxs=>bif Nat.beq e i.elem&& !fz then
      .chk (decide (((xs.take E).length+a1.length)*i.bytes<=bC)) (.wr o .gone (.nw (.arr e t (xs.take E++a1) false) λo=>.ret (.own t o)))
     else .fail
    |_=>.fail
   | .clip ae xs=>(HM.ofOpt (ae.list.cast? t.list xs)).bind λxs=>
      .chk (decide (0<a1.length)&&decide ((xs.length+a1.length)*i.bytes<=bC)) (.nw (.arr i.elem t (xs++a1) false) λo=>.ret (.own t o))
   |_=>.fail
  |_=>.fail
 |none=>.fail
 else PB cx T dY d x
def xG (fS:Bool):K->List K->HM K
 |x,[]=>.ret x
 | .dat (.int k) a,.dat (.int eD) b::l=>bif decide (k=eD) then xG fS (.dat (.int k) (if (if fS then a<b else b<a) then b else a)) l else .fail
 | .dat .str a,.dat .str b::l=>
  xG fS (.dat .str (bif (bif fS then !(Op.bytesLess a b) else (Op.bytesLess a b||decide (a=b))) then a else b)) l
 |_,_=>.fail
def PE (cx:cm) (T:bs) (I d:K):HM K:=match I with
 | .own t o=>bif cx.isTy T (.list t) then (oq d).bind λe=>.rdw o λb=>match b with
  | .arr f ae xs fz=>(HM.ofOpt (e.t.cast? (.list ae) e.x)).bind λa1=>bif decide (ae=t)&& !fz then
    .wr o (.arr f ae (xs.take 0++a1.take xs.length++xs.drop (0+(a1.take xs.length).length)) false) (.ret (.dat (.int .i64) ((a1.take xs.length).length:Int))) else .fail
  |_=>.fail
  else .fail
 | .view t o aR E=>bif cx.isTy T (.list t) then (oq d).bind λe=>.rdw o λb=>match b with
  | .arr f ae xs fz=>(HM.ofOpt (e.t.cast? (.list ae) e.x)).bind λa1=>bif decide (ae=t)&& !fz then
    .wr o (.arr f ae (xs.take aR++a1.take (E-aR)++xs.drop (aR+(a1.take (E-aR)).length)) false) (.ret (.dat (.int .i64) ((a1.take (E-aR)).length:Int))) else .fail
  |_=>.fail
  else .fail
 |_=>.fail
def Pa (cx:cm) (T:bs) (I:K):HM K:=match I with
 | .own t o=>bif cx.isTy T (.list t) then .rdw o λb=>match b with
  | .arr e ae xs fz=>bif decide (ae=t)&& !fz then .wr o (.arr e ae (xs.take 0++List.replicate xs.length ae.zero++xs.drop (0+xs.length)) false) (.ret (.tup [])) else .fail
  |_=>.fail
  else .fail
 | .view t o aR E=>bif cx.isTy T (.list t) then .rdw o λb=>match b with
  | .arr e ae xs fz=>bif decide (ae=t)&& !fz then .wr o (.arr e ae (xs.take aR++List.replicate (E-aR) ae.zero++xs.drop (aR+(E-aR))) false) (.ret (.tup [])) else .fail
  |_=>.fail
  else .fail
 | .nils _ _=>.ret (.tup [])
 |_=>.fail
def oY (d:List UInt8) (pos:Int):Int×Int:=(((Utf8.decode ⟨⟨d⟩⟩ pos.toNat).1:Int),((Utf8.decode ⟨⟨d⟩⟩ pos.toNat).2:Int))
def Pg (cx:cm) (T:bs) (x:K):HM K:=match x with
 | .dat .str d=>bif cx.isTy T .str then .nw (.iter d 0) λo=>.ret (.ptr o .unit 0 []) else .fail
 |_=>.fail
def PW (x:K):HM K:=match x with
 | .ptr o .unit 0 []=>.rdw o λb=>match b with
  | .iter d pos=>.br (decide (pos<(d.length:Int))) (.wr o (.iter d (pos+(oY d pos).2)) (.ret (.tup [.dat .bool true,.dat (.int .i64) pos,.dat (.int .i32) (oY d pos).1]))) (.ret (.tup [.dat .bool false]))
  |_=>.fail
 |_=>.fail
def P1 (cx:cm) (T:bs) (x:K):HM K:=match x with
 | .nils _ t=>bif cx.isTy T (.list t) then .ret (.dat (.int .i64) (0:Int)) else .fail
 | .clip t xs=>bif cx.isTy T (.list t) then .ret (.dat (.int .i64) (xs.length:Int)) else .fail
 | .own t o=>bif cx.isTy T (.list t) then .rdc o λb=>match b with
  | .arr _ ae xs _=>.ret (.atl xs.length)
  |_=>.fail
  else .fail
 | .view t o aR E=>bif cx.isTy T (.list t) then .rdc o λb=>match b with
  | .arr _ ae xs _=>.ret (.atl (xs.length-aR))
  |_=>.fail
  else .fail
 |_=>.fail
def OD (cx:cm) (b:Builtin) (hF:List bs) (args:List K):HM K:=
 match b,hF,args with
 | .len,[T],[x]=>bif qS cx T&&(PO cx T==x.isStr) then (lenOf x).bind λn=>.ret (.dat (.int .i64) (n:Int)) else .fail
 | .append,[T,dY],[d,x]=>OM cx T dY d x
 | .min,_,x::l=>xG false x l
 | .max,_,x::l=>xG true x l
 | .clear,[T],[x]=>bif qS cx T then Pa cx T x else .fail
 | .copy,[T,dY],[I,d]=>bif qS cx dY then PE cx T I d else .fail
 | .cap,[T],[x]=>P1 cx T x
 |_,_,_=>.fail
mutual
def K.ids:K->List Nat
 | .own _ o=>[o] | .view _ o _ _=>[o] | .ptr o _ _ _=>[o] | .yld _ o=>[o]
 | .agg l=>K.idsL l | .tup l=>K.idsL l | .fn _ a b=>K.idsL a++K.idsL b | .iface _ r=>r.ids | .dfr _ a b _ _=>K.idsL a++K.idsL b
 |_=>[]
def K.idsL:List K->List Nat
 |[]=>[] |r::l=>r.ids++K.idsL l
end
mutual
def K.ren (ρ:Nat->Nat):K->K
 | .own t o=>.own t (ρ o)| .view t o a b=>.view t (ρ o) a b | .ptr o t i p=>.ptr (ρ o) t i p | .yld Y o=>.yld Y (ρ o)
 | .agg l=>.agg (K.renL ρ l)| .tup l=>.tup (K.renL ρ l)| .fn f a b=>.fn f (K.renL ρ a) (K.renL ρ b)| .iface T r=>.iface T (r.ren ρ)| .dfr f a b t xs=>.dfr f (K.renL ρ a) (K.renL ρ b) t xs
 |r=>r
def K.renL (ρ:Nat->Nat):List K->List K
 |[]=>[] |r::l=>r.ren ρ::K.renL ρ l
end
def bS.ids:bS->List Nat
 |[]=>[] |(_,r)::l=>r.ids++bS.ids l
def bS.ren (ρ:Nat->Nat):bS->bS
 |[]=>[] |(I,r)::l=>(I,r.ren ρ)::bS.ren ρ l
def aH.ids:aH->List Nat
 | .box _ _ r=>r.ids | .loop _ R _=>bS.ids R |_=>[]
def aH.ren (ρ:Nat->Nat):aH->aH
 | .box T t r=>.box T t (r.ren ρ)| .loop Y R p=>.loop Y (bS.ren ρ R) p |b=>b
def idx (l:List Nat) (o:Nat):Nat:=go l 0
where
 go:List Nat->Nat->Nat
  |[],n=>n
  |a::l,n=>bif Nat.beq a o then n else go l (n+1)
def has (l:List Nat) (o:Nat):Bool:=match l with
 |[]=>false
 |a::l=>Nat.beq a o||has l o
def lv:Nat->List Nat->List Nat->List aH->HM (List Nat×List aH)
 |0,_,_,_=>.fail
 |_+1,[],done,obs=>.ret (done,obs)
 |n+1,o::todo,done,obs=>bif has done o then lv n todo done obs
  else .rdw o λb=>lv n (todo++b.ids) (done++[o]) (obs++[b])
abbrev hN:=FuncId->List K->List aH->DT (K×List aH)
def Hm (r:K):HM K:=match r with
 | .agg l=>(uV l).bind λI=>.ret (.dat I.t I.x)
 | .own t o=>(hr (.own t o)).bind λI=>.ret (.dat I.t I.x)
 | .view t o a b=>(hr (.view t o a b)).bind λI=>.ret (.dat I.t I.x)
 | .nils _ t=>.ret (.dat (.list t) [])
 | .clip t xs=>.ret (.dat (.list t) xs)
 |r=>.ret r
def Br (cx:cm) (f:FuncId):Nat->List K->HM (List K)
 |_,[]=>.ret []
 |j,r::l=>(bif cx.rawArg f j then .ret r else Hm r).bind λgX=>(Br cx f (j+1) l).bind λfG=>.ret (gX::fG)
def r1 (ρ:Nat->Nat):List Nat->List aH->HM Unit
 |[],[]=>.ret ()
 |[],b::l=>.nw (b.ren ρ) λ_=>r1 ρ [] l
 |o::os,b::l=>.wr o (b.ren ρ) (r1 ρ os l)
 |_::_,[]=>.fail
def rZ (cx:cm) (Γ:hN) (f:FuncId) (args:List K):HM K:=
 (Br cx f 0 args).bind λargs=>(lv 200 (K.idsL args) [] []).bind λ(done,obs)=>
  (HM.ofDT (Γ f (K.renL (idx done) args) (obs.map (aH.ren (idx done))))).bind λ(r,axi)=>
   .nxt λn=>(r1 (λi=>done.getD i (n+(i-done.length))) done axi).bind λ_=>
    .ret (r.ren (λi=>done.getD i (n+(i-done.length))))
def iY (cx:cm):List bs->List K->List K
 |T::hF,r::l=>cx.typ T r::iY cx hF l
 |_,l=>l
def P3 (y:Operand):Bool:=match y with
 | .const .nilIface=>true
 |_=>false
structure nq where
 params:List Nat
 assign:Code
 body:Code
 nt:Nat
class Env where
 code:Nat->Option nq
 glob:Nat->List (Option Nat)
section
variable [Env]
def jA (f:Nat):Bool:=(Env.code f).isSome
def nv (cx:cm) (Γ:hN) (o:Oper) (db:Operand->K):HM K:=
 match o.op with
 | .move x=>.ret (cx.typ o.type (db x))
 | .assign x=>.ret (cx.typ o.type (db x))
 | .pick c a b=>match mB (db c) with
  |some t=>.br t (.ret (db a)) (.ret (db b))
  |none=>.fail
 | .alloc T=>O6 cx T
 | .box T x=>By cx T (db x)
 | .build T ps=>A6 cx T (ps.toList.map λp=>(p.1,db p.2))
 | .buildSlice T n ps=>Ea cx T n (ps.toList.map λp=>(p.1,db p.2))
 | .load T a=>Bm cx T (db a)
 | .store T a x=>Py cx T (db a) (cx.typ T (db x))
 | .nilCheck x=>match db x with
  | .ptr o t i p=>.ret (.ptr o t i p)
  | .fptr t x=>.ret (.fptr t x)
  |_=>.fail
 | .binOp b T x y _=>bif P3 y then Qb cx b T (db x) else P0 cx b T (db x) (db y)
 | .unOp b _ x=>LG b (db x)
 | .convert S T x=>PD cx S T (db x)
 | .makeFunc (.func f) a b=>.ret (.fn f (a.toList.map db) (b.toList.map db))
 | .makeInterface T x=>match cx.ti T with
  |some i=>bif decide (i.ty=.opq) then .fail else .ret (.iface T (db x))
  |none=>.fail
 | .makeSlice T l c=>match uX (db l),uX (db c) with
  |some l,some c=>ND cx T l c
  |_,_=>.fail
 | .slice T x aR E fS=>match xO (aR.map db),xO (E.map db),xO (fS.map db) with
  |some l,some h,some m=>Pw cx T (db x) l h m
  |_,_,_=>.fail
 | .fieldAddr T x f=>Nv cx T (db x) f
 | .field T x f=>Pk cx T (db x) f
 | .indexAddr T x i=>match uX (db i) with
  |some i=>Nx cx T (db x) i
  |none=>.fail
 | .index T x i=>match uX (db i) with
  |some i=>arm cx T (db x) i
  |none=>.fail
 | .range T x=>Pg cx T (db x)
 | .next x b=>bif b then PW (db x) else .fail
 | .extract x j=>match db x with
  | .tup l=>HM.ofOpt l[j]?
  |_=>.fail
 | .call c=>match c.callee with
  | .builtin b=>OD cx b c.argTypes.toList (iY cx c.argTypes.toList (c.args.toList.map db))
  | .value f=>match db f with
   | .fn g first lG=>bif jA g then .fail else rZ cx Γ g (first++iY cx c.argTypes.toList (c.args.toList.map db)++lG)
   | .yld Y o=>bif jA Y then rZ cx Γ Y (.yld Y o::iY cx c.argTypes.toList (c.args.toList.map db)) else .fail
   |_=>.fail
  | .invoke x nm=>match db x with
   | .iface T r=>match cx.ti T with
    |some i=>match vZ i.meths nm with
     |some f=>bif jA f then .fail else rZ cx Γ f (r::iY cx c.argTypes.toList (c.args.toList.map db))
     |none=>.fail
    |none=>.fail
   |_=>.fail
 |_=>.fail
def dK:Nat:=1000000000
def h2 (R:bS):Operand->K
 | .tmp t=>bif Nat.beq t dK then .undef else (R.get t).getD .undef
 | .const v=>G7 v
 | .func f=>.fn f [] []
 | .global g=>match Env.glob g with
  |[]=>.undef
  |l=>.gp g 0 l
def Ax (b:Bool) (want:Bool):Bool:=match want with |true=>b |false=> !b
def l1 (R:bS) (I:Option Tmp) (r:K):bS:=match I with
 |some I=>R.put I r
 |none=>R
def refine (R:bS) (I:Nat) (b:Bool):bS:=R.put I (.dat .bool b)
def uO (cx:cm) (Γ:hN) (o:Oper) (st:bX) (nx:Nat):DT (bX×Nat×dk):=
 ((nv cx Γ o (h2 st.regs)).run st.heap nx .none).bind λ(r,h,n,p)=>.leaf (⟨l1 st.regs o.dst r,h⟩,n,p)
def qt (cx:cm) (Γ:hN) (ops:Array Oper) (o:Oper) (st:bX) (nx:Nat):DT (bX×Nat×dk):=
 match o.guard with
 |none=>uO cx Γ o st nx
 |some (j,want)=>match (ops[j]?).bind (·.dst) with
  |some I=>match (st.regs.get I).bind mB with
   |some b=>.br (Ax b want) (uO cx Γ o ⟨refine st.regs I want,st.heap⟩ nx) (.leaf (⟨l1 (refine st.regs I (!want)) o.dst (.tup []),st.heap⟩,nx,.none))
   |none=>match st.regs.get I with
    |some (.tup [])=>.leaf (⟨l1 st.regs o.dst (.tup []),st.heap⟩,nx,.none)
    |_=>.fail
  |none=>.fail
def u2:List K->List K->Bool
 |[],[]=>true
 | .ptr o t i p::l,.ptr dV iI ru hv::m=>Nat.beq o dV&&decide (t=iI)&&Nat.beq i ru&&decide (p=hv)&&u2 l m
 |_,_=>false
def uc (o:Nat) (t:az) (x:t.den):bS->bS
 |[]=>[]
 |(I,.ptr dV iI i p)::l=>(I,bif Nat.beq o dV&&decide (t=iI)&&Nat.beq i 0&&p.isEmpty then .fptr t x else .ptr dV iI i p)::uc o t x l
 |(I,r)::l=>(I,r)::uc o t x l
def Pd (c:Call) (o:Oper) (st:bX):DT bX:=
 match c.callee,c.args.toList,o.dst,o.guard,st.regs.get dK with
 | .value f,[],none,none,some (.dfr g a b t xs)=>match h2 st.regs f with
  | .fn QN [] lG=>match lG.drop a.length with
   | .ptr p ae 0 []::bZ=>bif Nat.beq g QN&&u2 (lG.take a.length) a&&u2 bZ b then
     match aG st.heap p with
     | .box _ iU (.dat v x)=>bif decide (ae=t)&&decide (iU=t) then .opt (v.cast? t x) λx=>.leaf ⟨(uc p t x st.regs).put dK (.dfr g a b t (x::xs)),cc st.heap p .gone⟩ else .fail
     |_=>.fail
    else .fail
   |_=>.fail
  |_=>.fail
 |_,_,_,_,_=>.fail
def oU (cx:cm) (Γ:hN) (ops:Array Oper):List Oper->bX->DT bX
 |[],st=>.leaf st
 |o::l,st=>(match o.op with
  | .defer c=>Pd c o st
  |_=>(qt cx Γ ops o st st.heap.length).bind λ(bb,_,_)=>.leaf bb).bind λbb=>oU cx Γ ops l bb
structure np where
 dst:List Nat
 uses:List Nat
 fp:dk
def rX (ops:Array Oper) (o:Oper):List Nat:=o.looksAt ops
def o9:List Nat->List Nat->Bool
 |[],_=>true
 |a::l,m=> !has m a&&o9 l m
def np.apart (a b:np):Bool:=
 o9 a.dst b.uses&&o9 a.dst b.dst&&o9 a.uses b.dst&&
 o9 a.fp.wr b.fp.rd&&o9 a.fp.wr b.fp.fz&&o9 a.fp.wr b.fp.wr&&o9 a.fp.rd b.fp.wr&&o9 a.fp.fz b.fp.wr
def kx (ops:List Oper):List Nat:=go ops []
where
 go:List Oper->List Nat->List Nat
  |[],acc=>acc
  |o::l,acc=>go l (acc++[o.after.toList.foldl (λm e=>bif Region.binds .any e then m ||| (1 <<< e.on) ||| acc.getD e.on 0 else m) 0])
def uR (sE:List Nat):Nat->List np->Bool
 |_,[]=>true
 |i,n::l=>go i n (i+1) l&&uR sE (i+1) l
where
 go (i:Nat) (n:np):Nat->List np->Bool
  |_,[]=>true
  |j,m::l=>((sE.getD j 0).testBit i||n.apart m)&&go i n (j+1) l
def slotsOf:Nat:=4
def FF (ay:Nat) (p:dk):Bool:=p.rd.all (Nat.blt · ay)&&p.fz.all (Nat.blt · ay)&&p.wr.all (Nat.blt · ay)
def xt:Nat->List Oper->Bool
 |_,[]=>true
 |i,o::l=>o.after.toList.all (λe=> !Region.binds .any e||Nat.blt e.on i)&&xt (i+1) l
def Bx (cx:cm) (Γ:hN) (ops:Array Oper) (base ay:Nat):Nat->List Oper->bX->List np->DT (bX×List np)
 |_,[],st,Q=>.leaf (st,Q)
 |i,o::l,st,Q=>(qt cx Γ ops o st (base+slotsOf*i)).bind λ(bb,n,fp)=>
  bif Nat.ble n (base+slotsOf*i+slotsOf)&&FF ay fp then Bx cx Γ ops base ay (i+1) l bb (Q++[⟨o.dst.toList,rX ops o,fp⟩]) else .fail
def Ph (cx:cm) (Γ:hN) (ops:Array Oper) (draw:Bool) (st:bX):DT bX:=
 bif draw then
  (Bx cx Γ ops st.heap.length (st.heap.length+slotsOf*ops.size) 0 ops.toList ⟨st.regs,st.heap++List.replicate (slotsOf*ops.size) .hole⟩ []).bind λ(bb,Q)=>
   bif uR (kx ops.toList) 0 Q&&xt 0 ops.toList then .leaf bb else .fail
 else oU cx Γ ops ops.toList st
inductive ei where
 |nrm |exit (id:Nat)|ret
def ue (ks:List Nat):bS->bS
 |[]=>[]
 |(I,r)::l=>bif has ks I then (I,r)::ue ks l else ue ks l
structure bn where
 cx:cm
 Γ:hN
 Λ:Nat->bX->DT (ei×bX)
 keep:Nat->Option (List Nat)
 m:Nat
 rfs:Nat->Option Nat:=λ_=>none
 its:List Nat:=[]
 dfr:Nat->Option (FuncId×List Nat×List Nat×az):=λ_=>none
def pR:Code->Option Nat
 | .region id _ _=>some id
 | .seq a _=>pR a
 | .scope c=>pR c
 | .cond _ a _=>(pR a).map (· +100000)
 | .block _ c=>(pR c).map (· +200000)
 |_=>none
def JM (a b:Code):Nat:=match pR a with
 |some i=>i
 |none=>(pR b).getD 0
def qR:Code->List Nat
 | .region _ ops _=>ops.toList.flatMap (rX ops)
 | .seq a b=>qR a++qR b
 | .cond c a b=>(match c with | .tmp t=>[t] |_=>[])++(qR a++qR b)
 | .block _ c=>qR c
 | .loop c=>qR c
 | .scope c=>qR c
 |_=>[]
def sm:Code->List Nat
 | .seq a b=>sm a++sm b
 | .cond _ a b=>sm a++sm b
 | .block id c=>(sm c).filter λi=> !Nat.beq i id
 | .loop c=>sm c
 | .scope c=>sm c
 | .exit i=>[i]
 |_=>[]
def nW:ei->Int
 | .nrm=>0 | .ret=>1 | .exit i=>2+(i:Int)
def BC:List ei->Int->bX->DT (ei×bX)
 |[],_,_=>.fail
 |e::l,p,st=>.br (decide (p=nW e)) (.leaf (e,st)) (BC l p st)
def uJ (R:bS):List Nat->bS
 |[]=>[]
 |I::us=>bif has us I||Nat.beq I dK then uJ R us else match R.get I with
  |some r=>(I,r)::uJ R us
  |none=>uJ R us
def Bt:bS->HM bS
 |[]=>.ret []
 |(I,r)::l=>(Hm r).bind λgX=>(Bt l).bind λfG=>.ret ((I,gX)::fG)
def VE (F:bn) (Y:Nat) (f:FuncId) (lG:List K) (R:bS):HM Int:=
 (Bt R).bind λR=>.nw (.loop Y R 0) λo=>(rZ F.cx F.Γ f (.yld Y o::lG)).bind λ_=>.rdw o λb=>match b with
  | .loop _ _ p=>.wr o .gone (.ret p)
  |_=>.fail
def LC (F:bn) (Y:Nat) (g:Operand) (us Qp:List Nat) (st:bX):DT (ei×bX):=
 match h2 st.regs g with
 | .fn f [] lG=>bif has F.its f&& !jA f&&(st.regs.get dK).isNone then
   ((VE F Y f lG (uJ st.regs us)).run st.heap st.heap.length .none).bind λ(p,h,_,_)=>BC (.nrm:: .ret::Qp.map .exit) p ⟨st.regs,h⟩
  else .fail
 |_=>.fail
def xI (R:bS):List Nat->Option (List K)
 |[]=>some []
 |I::l=>match R.get I with
  |some r=>(xI R l).map (r:: ·)
  |none=>none
def Ly (F:bn) (id:Nat) (st:bX):DT bX:=match F.dfr id with
 |none=>.leaf st
 |some (f,us,aQ,t)=>match st.regs.get dK,xI st.regs us,xI st.regs aQ with
  |some (.tup []),some a,some b=>.leaf ⟨st.regs.put dK (.dfr f a b t []),st.heap⟩
  |_,_,_=>.fail
def gf (F:bn):Code->Nat->bX->DT (ei×bX)
 | .skip,_,st=>.leaf (.nrm,st)
 | .region id ops draw,_,st=>(Ph F.cx F.Γ ops draw st).bind λst=>match F.keep id with
  |some ks=>.leaf (.nrm,⟨ue ks st.regs,st.heap⟩)
  |none=>(Ly F id st).bind λst=>.leaf (.nrm,st)
 | .seq a b,k,st=>(gf F a k st).bind λ(e,bb)=>match e with
  | .nrm=>gf F b k bb
  |e=>.leaf (e,bb)
 | .cond c a b,k,st=>match mB (h2 st.regs c) with
  |some t=>match c with
   | .tmp I=>.br t (gf F a k ⟨refine st.regs I true,st.heap⟩) (gf F b k ⟨refine st.regs I false,st.heap⟩)
   |_=>.br t (gf F a k st) (gf F b k st)
  |none=>.fail
 | .block id c,_,st=>(gf F c id st).bind λ(e,bb)=>match e with
  | .exit i=>bif Nat.beq i id then .leaf (.nrm,bb) else .leaf (.exit i,bb)
  |e=>.leaf (e,bb)
 | .loop _,k,st=>F.Λ k st
 | .rangeFunc g _ a b,_,st=>match F.rfs (JM a b) with
  |some Y=>LC F Y g (qR a++qR b) (sm b) st
  |none=>.fail
 | .exit id,_,st=>.leaf (.exit id,st)
 | .ret,_,st=>.leaf (.ret,st)
 | .scope c,k,st=>gf F c k st
 | .label _,_,st=>.leaf (.nrm,st)
 |_,_,_=>.fail
def fX:Nat->List K->bS
 |_,[]=>[]
 |i,r::l=>(i,r)::fX (i+1) l
def l4 (cx:cm) (R:bS):Nat->List ResultVar->HM bS
 |_,[]=>.ret []
 |j,v::l=>(match v with
   | .tmp t=>HM.ret (h2 R (.tmp t))
   | .cell a T=>Bm cx T (h2 R (.tmp a))).bind λr=>(l4 cx R (j+1) l).bind λfG=>.ret ((j,r)::fG)
def k6:Nat->List Nat
 |0=>[]
 |n+1=>k6 n++[n]
inductive cw where
 |dat (t:az)
 |clip (t:az)
 |own (t:az) (o:Nat)
 |ptr (o:Nat) (t:az) (i:Nat) (p:List Nat)
 |agg (l:List cw)
 |fn (f:FuncId) (first lG:List cw)
 |iface (T:bs) (r:cw)
 |nilI |nilF |nilP |undef
 |nils (e:bs) (t:az)
 |yld (Y:Nat) (o:Nat)
 |dfr (f:FuncId) (a b:List cw) (t:az)
inductive dX where
 |arr (e:bs) (t:az) (fz:Bool)
 |box (T:bs) (t:az) (r:cw)
 |iter
 |gone
 |loop (Y:Nat) (R:List (Nat×cw))
structure Shape where
 regs:List (Nat×cw)
 objs:List dX
mutual
def cw.holes:cw->List az
 | .dat t=>[t] | .clip t=>[.list t] | .agg l=>cw.holesL l | .fn _ a b=>cw.holesL a++cw.holesL b | .iface _ r=>r.holes | .dfr _ a b t=>cw.holesL a++(cw.holesL b++[.list t])|_=>[]
def cw.holesL:List cw->List az
 |[]=>[] |d::l=>d.holes++cw.holesL l
end
def dX.holes:dX->List az
 | .arr _ t _=>[.list t] | .box _ _ r=>r.holes | .iter=>[.str,.int .i64] | .gone=>[] | .loop _ R=>R.flatMap (λp=>p.2.holes)++[.int .i64]
def chain:List az->az
 |[]=>.unit |t::l=>.pair t (chain l)
def Shape.ty (S:Shape):az:=chain (S.regs.flatMap (λp=>p.2.holes)++S.objs.flatMap dX.holes)
def mF (t:az):List eP->Option (t.den×List eP)
 |[]=>none
 |I::l=>(I.t.cast? t I.x).map λx=>(x,l)
mutual
def cw.enc:cw->List eP->Option (K×List eP)
 | .dat t,l=>(mF t l).map λp=>(.dat t p.1,p.2)
 | .clip t,l=>(mF (.list t) l).map λp=>(.clip t p.1,p.2)
 | .own t o,l=>some (.own t o,l)
 | .ptr o t i p,l=>some (.ptr o t i p,l)
 | .agg d,l=>(cw.encL d l).map λp=>(.agg p.1,p.2)
 | .fn f a b,l=>match cw.encL a l with
  |some (bt,l)=>(cw.encL b l).map λp=>(.fn f bt p.1,p.2)
  |none=>none
 | .iface T r,l=>(r.enc l).map λp=>(.iface T p.1,p.2)
 | .dfr f a b t,l=>match cw.encL a l with
  |some (bt,l)=>match cw.encL b l with
   |some (bZ,l)=>(mF (.list t) l).map λp=>(.dfr f bt bZ t p.1,p.2)
   |none=>none
  |none=>none
 | .nilI,l=>some (.nilI,l)| .nilF,l=>some (.nilF,l)| .nilP,l=>some (.nilP,l)| .undef,l=>some (.undef,l)| .nils e t,l=>some (.nils e t,l)| .yld Y o,l=>some (.yld Y o,l)
def cw.encL:List cw->List eP->Option (List K×List eP)
 |[],l=>some ([],l)
 |d::r,l=>match d.enc l with
  |some (x,l)=>(cw.encL r l).map λp=>(x::p.1,p.2)
  |none=>none
end
def qy:List (Nat×cw)->List eP->Option (bS×List eP)
 |[],l=>some ([],l)
 |(I,d)::r,l=>match d.enc l with
  |some (x,l)=>(qy r l).map λp=>((I,x)::p.1,p.2)
  |none=>none
def dX.enc:dX->List eP->Option (aH×List eP)
 | .arr e t fz,l=>(mF (.list t) l).map λp=>(.arr e t p.1 fz,p.2)
 | .box T t r,l=>(r.enc l).map λp=>(.box T t p.1,p.2)
 | .iter,l=>match mF .str l with
  |some (d,l)=>(mF (.int .i64) l).map λp=>(.iter d p.1,p.2)
  |none=>none
 | .gone,l=>some (.gone,l)
 | .loop Y R,l=>match qy R l with
  |some (eT,l)=>(mF (.int .i64) l).map λp=>(.loop Y eT p.1,p.2)
  |none=>none
def xE:List dX->List eP->Option (List aH×List eP)
 |[],l=>some ([],l)
 |d::r,l=>match d.enc l with
  |some (x,l)=>(xE r l).map λp=>(x::p.1,p.2)
  |none=>none
def Shape.enc (S:Shape) (d:S.ty.den):bX:=
 match qy S.regs (S.ty.parts d) with
 |some (R,l)=>match xE S.objs l with
  |some (J,_)=>⟨R,J⟩
  |none=>⟨[],[]⟩
 |none=>⟨[],[]⟩
mutual
def cw.dec:cw->K->Option (List eP)
 | .dat t,.dat ae x=>bif decide (ae=t) then some [⟨ae,x⟩] else none
 | .clip t,.clip ae x=>bif decide (ae=t) then some [⟨.list ae,x⟩] else none
 | .own t o,.own ae dV=>bif decide (ae=t)&&Nat.beq o dV then some [] else none
 | .ptr o t i p,.ptr dV iI ru hv=>bif Nat.beq o dV&&decide (t=iI)&&Nat.beq i ru&&decide (p=hv) then some [] else none
 | .agg l,.agg r=>cw.decL l r
 | .fn f a b,.fn g x y=>bif Nat.beq f g then match cw.decL a x with
   |some l=>(cw.decL b y).map λm=>l++m
   |none=>none
  else none
 | .iface T r,.iface U d=>bif Nat.beq T U then r.dec d else none
 | .dfr f a b t,.dfr g x y ae xs=>bif Nat.beq f g&&decide (ae=t) then match cw.decL a x with
   |some l=>match cw.decL b y with
    |some m=>some (l++(m++[⟨.list ae,xs⟩]))
    |none=>none
   |none=>none
  else none
 | .nilI,.nilI=>some [] | .nilF,.nilF=>some [] | .nilP,.nilP=>some [] | .undef,.undef=>some []
 | .yld Y o,.yld sd dV=>bif Nat.beq Y sd&&Nat.beq o dV then some [] else none
 | .nils e t,.nils ee iI=>bif Nat.beq e ee&&decide (t=iI) then some [] else none
 |_,_=>none
def cw.decL:List cw->List K->Option (List eP)
 |[],[]=>some []
 |d::l,r::m=>match d.dec r with
  |some a=>(cw.decL l m).map λb=>a++b
  |none=>none
 |_,_=>none
end
def jg:List (Nat×cw)->bS->Option (List eP)
 |[],[]=>some []
 |(I,d)::l,(e,r)::m=>bif Nat.beq I e then match d.dec r with
   |some a=>(jg l m).map λb=>a++b
   |none=>none
  else none
 |_,_=>none
def dX.dec:dX->aH->Option (List eP)
 | .arr e t fz,.arr ee ae xs kJ=>bif Nat.beq e ee&&decide (ae=t)&&decide (fz=kJ) then some [⟨.list ae,xs⟩] else none
 | .box T t r,.box Ft iI d=>bif Nat.beq T Ft&&decide (t=iI) then r.dec d else none
 | .iter,.iter d pos=>some [⟨.str,d⟩,⟨.int .i64,pos⟩]
 | .gone,.gone=>some []
 | .loop Y R,.loop sd eT p=>bif Nat.beq Y sd then (jg R eT).map λl=>l++[⟨.int .i64,p⟩] else none
 |_,_=>none
def fY:List dX->List aH->Option (List eP)
 |[],[]=>some []
 |d::l,b::m=>match d.dec b with
  |some a=>(fY l m).map λc=>a++c
  |none=>none
 |_,_=>none
def xr:(ni:List az)->List eP->Option (chain ni).den
 |[],[]=>some ()
 |t::ni,I::l=>match I.t.cast? t I.x,xr ni l with
  |some x,some y=>some (x,y)
  |_,_=>none
 |_,_=>none
def Shape.dec (S:Shape) (st:bX):Option S.ty.den:=
 match jg S.regs st.regs,fY S.objs st.heap with
 |some a,some b=>xr _ (a++b)
 |_,_=>none
mutual
def Bz:cw->K->HM K
 | .dat t,r=>(xa t r).bind λx=>.ret (.dat t x)
 | .own _ _,.nils e t=>.nw (.arr e t [] false) λo=>.ret (.own t o)
 | .own _ _,.view t o 0 E=>.rdw o λb=>match b with
  | .arr e ae xs false=>.wr o .gone (.nw (.arr e ae (xs.take E) false) λo=>.ret (.own ae o))
  |_=>.fail
 | .own _ _,.view t o aR E=>.rdw o λb=>match b with
  | .arr e ae xs false=>bif decide (ae=t) then .wr o .gone (.nw (.arr e ae ((xs.take E).drop aR) false) λo=>.ret (.own ae o)) else .fail
  |_=>.fail
 | .agg l,.agg m=>(G6 l m).bind λm=>.ret (.agg m)
 |_,r=>.ret r
def G6:List cw->List K->HM (List K)
 |d::l,r::m=>(Bz d r).bind λr=>(G6 l m).bind λm=>.ret (r::m)
 |_,m=>.ret m
end
def AI:List (Nat×cw)->bS->HM bS
 |[],_=>.ret []
 |(I,d)::l,R=>match R.get I with
  |some r=>(Bz d r).bind λr=>(AI l R).bind λeT=>.ret ((I,r)::eT)
  |none=>.fail
def rL:List Nat->List dX->HM Unit
 |o::l,.box _ _ d::m=>.rdw o λb=>match b with
  | .box _ _ r=>(Bz d r).bind λr=>.rdw o λb=>match b with
   | .box T t _=>bif r.fits t then .wr o (.box T t r) (rL l m) else .fail
   |_=>.fail
  |_=>.fail
 |o::l,.arr _ _ true::m=>.rdw o λb=>match b with
  | .arr ..=>.frz o (rL l m)
  |_=>.fail
 |o::l,.gone::m=>.rdw o λb=>match b with
  | .arr ..=>.wr o .gone (rL l m)
  |_=>rL l m
 |_::l,_::m=>rL l m
 |_,_=>.ret ()
def uF:List dX->Nat->HM (List (Nat×Nat))
 |[],_=>.ret []
 | .gone::l,o=>.rdw o λb=>match b with
  | .arr e t xs fz=>.wr o .gone (.nw (.arr e t xs fz) λn=>(uF l (o+1)).bind λs=>.ret ((o,n)::s))
  |_=>uF l (o+1)
 |_::l,o=>uF l (o+1)
def fwd:List (Nat×Nat)->Nat->Nat
 |[],i=>i
 |(o,n)::l,i=>bif Nat.beq i o then n else fwd l i
def xl (ρ:Nat->Nat):List Nat->HM Unit
 |[]=>.ret ()
 |o::l=>.rdw o λb=>match b with
  | .box T t r=>.wr o (.box T t (r.ren ρ)) (xl ρ l)
  |_=>xl ρ l
def Hz (S:Shape) (m:Nat) (R:bS):HM bX:=
 (AI S.regs R).bind λR=>(lv 200 (k6 m++R.ids) [] []).bind λp=>(rL p.1 S.objs).bind λ_=>
  (lv 200 (k6 m++R.ids) [] []).bind λs=>.ret ⟨R.ren (idx s.1),s.2.map (aH.ren (idx s.1))⟩
def Ay (S:Shape) (m:Nat) (R:bS):HM bX:=
 (uF (S.objs.take m) 0).bind λs=>match s with
  |[]=>Hz S m R
  |s=>(lv 200 (k6 m++R.ids) [] []).bind λp=>(xl (fwd s) p.1).bind λ_=>Hz S m (R.ren (fwd s))
def Shape.take (S:Shape) (m:Nat) (st:bX):DT S.ty.den:=
 ((Ay S m st.regs).run st.heap st.heap.length .none).bind λ(bb,_,_,_)=>DT.ofOpt (S.dec bb)
def ei.is:ei->ei->Bool
 | .nrm,.nrm=>true | .ret,.ret=>true | .exit i,.exit j=>Nat.beq i j |_,_=>false
structure bO where
 S:Shape
 x:ei
 X:Shape
 y:ei
 Y:Shape
abbrev bO.Out (ay:bO):Type:=ay.X.ty.den⊕ay.Y.ty.den
def bO.out (ay:bO) (m:Nat) (e:ei) (st:bX):DT ay.Out:=
 bif e.is ay.x then (ay.X.take m st).bind λx=>.leaf (.inl x) else bif e.is ay.y then (ay.Y.take m st).bind λy=>.leaf (.inr y) else .fail
def bO.body (ay:bO) (F:bn) (c:Code) (k:Nat) (d:ay.S.ty.den):DT (ay.S.ty.den⊕ay.Out):=
 (gf F c k (ay.S.enc d)).bind λ(e,st)=>match e with
  | .nrm=>(ay.S.take F.m st).bind λd=>.leaf (.inl d)
  |e=>(ay.out F.m e st).bind λo=>.leaf (.inr o)
def bO.go (ay:bO) (f:ay.S.ty.den->Option ay.Out) (m:Nat) (st:bX):DT (ei×bX):=
 (ay.S.take m st).bind λd=>.alt (f d) (λx=>.leaf (ay.x,ay.X.enc x)) (λy=>.leaf (ay.y,ay.Y.enc y))
def gi {σ ρ:Type} (b:σ->Option (σ⊕ρ)):Nat->σ->Option ρ
 |0,_=>none
 |n+1,d=>match b d with
  |some (.inl t)=>gi b n t
  |some (.inr r)=>some r
  |none=>none
def jl:Nat:=1000000000000000000000000
def b8 {σ ρ:Type} (b:σ->Option (σ⊕ρ)) (d:σ):Option ρ:=gi b jl d
structure aZ where
 f:FuncId
 S:Shape
 Z:Shape
 g:S.ty.den->Option Z.ty.den
def kj:bS->K
 |[(_,r)]=>r
 |l=>.tup (l.map (·.2))
def me (F:bn) (fn:Func) (S Z:Shape) (d:S.ty.den):DT Z.ty.den:=
 (gf F (fn.body.getD .skip) 0 (S.enc d)).bind λ(e,st)=>match e with
  | .exit _=>.fail
  |_=>((l4 F.cx st.regs 0 fn.results.toList).run st.heap st.heap.length .none).bind λ(R,h,_,_)=>Z.take F.m ⟨R,h⟩
def xy:List Nat->List K->bS->bS
 |p::ps,r::rs,R=>xy ps rs (R.put p r)
 |_,_,R=>R
def ei.isNrm:ei->Bool
 | .nrm=>true |_=>false
def P2 (Y:Nat) (e:ei) (st:bX):DT bX:=match aG st.heap 0 with
 | .loop FE R p=>bif Nat.beq FE Y then .br (decide (p= -1)) (.leaf ⟨[(0,.dat .bool e.isNrm)],cc st.heap 0 (.loop Y R (nW e))⟩) .fail else .fail
 |_=>.fail
def sv (F:bn) (C:bn->Code->Nat->bX->DT (ei×bX)) (Y:Nat) (c:nq) (S Z:Shape) (d:S.ty.den):DT Z.ty.den:=
 match (S.enc d).regs,(S.enc d).heap with
 |(_,.yld _ 0)::args,.loop pO R p::J=>bif Nat.beq pO Y then .br (decide (p=0))
  (match (xy c.params (args.map (·.2)) R).get dK with
  |some _=>.fail
  |none=>(C F c.assign 0 ⟨xy c.params (args.map (·.2)) R,.loop pO R p::J⟩).bind λ(e,st)=>match e with
   | .nrm=>match aG st.heap 0 with
    | .loop oj R p=>bif Nat.beq oj Y then .br (decide (p=0)) ((C F c.body 0 ⟨st.regs,cc st.heap 0 (.loop Y R (-1))⟩).bind λ(e,st)=>(P2 Y e st).bind λst=>Z.take F.m st) .fail else .fail
    |_=>.fail
   |_=>.fail) .fail else .fail
 |_,_=>.fail
def uK (ay:bO) (m:Nat) (Fd:bn) (fd:FuncId) (fn:Func) (d:ay.S.ty.den):DT (ay.S.ty.den⊕ay.Out):=
 match (ay.S.enc d).regs.get dK with
 |some (.dfr f a b t xs)=>bif Nat.beq f fd&&Nat.ble (a.length+b.length+1) fn.ntmps then .br xs.isEmpty ((ay.X.take m ⟨(ay.S.enc d).regs,(ay.S.enc d).heap⟩).bind λx=>.leaf (.inr (.inl x)))
  (.opt xs.head? λx=>(gf Fd (fn.body.getD .skip) 0 ⟨(fX 0 (a++ .fptr t x::b)).put dK (.tup []),(ay.S.enc d).heap⟩).bind λ(e,st)=>match e,st.regs.get dK with
   | .exit _,_=>.fail
   |_,some (.tup [])=>(ay.S.take m ⟨(ay.S.enc d).regs.put dK (.dfr f a b t xs.tail),st.heap⟩).bind λd=>.leaf (.inl d)
   |_,_=>.fail) else .fail
 |_=>.fail
def Hx (F:bn) (fn:Func) (S Z:Shape) (d:S.ty.den):DT Z.ty.den:=
 (gf F (fn.body.getD .skip) 0 ⟨(S.enc d).regs.put dK (.tup []),(S.enc d).heap⟩).bind λ(e,st)=>match e with
  | .exit _=>.fail
  |_=>(F.Λ dK st).bind λ(_,st)=>((l4 F.cx st.regs 0 fn.results.toList).run st.heap st.heap.length .none).bind λ(R,h,_,_)=>Z.take F.m ⟨R,h⟩
def aZ.run (cO:aZ) (d:cO.S.ty.den):DT (K×List aH):=.opt (cO.g d) λz=>.leaf (kj (cO.Z.enc z).regs,(cO.Z.enc z).heap)
def hQ:List aZ->hN
 |[],_,_,_=>.fail
 |cO::l,f,args,J=>bif Nat.beq f cO.f then match cO.S.dec ⟨fX 0 args,J⟩ with
   |some d=>cO.run d
   |none=>hQ l f args J
  else hQ l f args J
end
def eC:Code->Nat->List (Nat×Code)
 | .seq a b,k=>eC a k++eC b k
 | .cond _ a b,k=>eC a k++eC b k
 | .block id c,_=>eC c id
 | .loop c,k=>(k,c)::eC c k
 | .scope c,k=>eC c k
 |_,_=>[]
def b7 (fn:Func):Code:=fn.body.getD .skip
def hp (c:Code) (i:Nat):Code:=((eC c 0).getD i (0,.skip)).2
def lA (n:Nat):Code->List (Nat×nq)
 | .seq a b=>lA n a++lA n b
 | .cond _ a b=>lA n a++lA n b
 | .block _ c=>lA n c
 | .loop c=>lA n c
 | .scope c=>lA n c
 | .rangeFunc _ ps a b=>[(JM a b,⟨ps.toList,a,b,n⟩)]
 |_=>[]
def ko (fn:Func) (i:Nat):nq:=((lA fn.ntmps (b7 fn)).getD i (0,⟨[],.skip,.skip,0⟩)).2
def VF (fn:Func) (i:Nat):Code:=.seq (ko fn i).assign (ko fn i).body
open Go.RowKit
abbrev bP:=Nat->Nat->Prop
def kz (φ:bP) (w:bm) (b o:Nat) (cs:List aA):Prop:= ∀i v,cs[i]? =some v->φ b (o+i)/\w.cell? ⟨b,o+i,none⟩=some v
def c4 {α:Type} (R:α->List aA->Prop):List α->List aA->Prop
 |[],cs=>cs=[]
 |x::xs,cs=> ∃bj ba,cs=bj++ba/\R x bj/\c4 R xs ba
def bA (φ:bP) (w:bm):(t:az)->t.den->List aA->Prop
 | .bool,x,cs=>cs=[.bool x]
 | .int k,x,cs=>cs=[.int k x]
 | .str,x,cs=>cs=[.string ⟨⟨x⟩⟩]
 | .opq,_,_=>False
 | .unit,_,cs=>cs=[]
 | .list t,xs,cs=> ∃A n c,cs=[.slice A n c]/\xs.length=n/\n<=c/\(n=0\/ ∃b o a1,A=some ⟨b,o,none⟩/\kz φ w b o a1/\c4 (bA φ w t) xs a1)
 | .pair a b,x,cs=> ∃bj ba,cs=bj++ba/\bA φ w a x.1 bj/\bA φ w b x.2 ba
theorem kz.mono {φ ax:bP} {w aq:bm} {b o:Nat} {cs:List aA} (aT: ∀b k,φ b k->ax b k) (au: ∀b k,φ b k->aq.cell? ⟨b,k,none⟩=w.cell? ⟨b,k,none⟩) (h:kz φ w b o cs):kz ax aq b o cs:=
 λi v E=>let ⟨q,G⟩:=h i v E;⟨aT _ _ q,(au _ _ q).trans G⟩
theorem c4.imp {α:Type} {R eT:α->List aA->Prop} (h: ∀x c,R x c->eT x c): ∀(xs:List α) (cs:List aA),c4 R xs cs->c4 eT xs cs
 |[],_,e=>e
 |_::xs,_,⟨bj,ba,e,r,k⟩=>⟨bj,ba,e,h _ _ r,c4.imp h xs ba k⟩
theorem bA.mono {φ ax:bP} {w aq:bm} (aT: ∀b k,φ b k->ax b k) (au: ∀b k,φ b k->aq.cell? ⟨b,k,none⟩=w.cell? ⟨b,k,none⟩):
  ∀(t:az) (x:t.den) (cs:List aA),bA φ w t x cs->bA ax aq t x cs
 | .bool,_,_,h=>h | .int _,_,_,h=>h | .str,_,_,h=>h | .opq,_,_,h=>h | .unit,_,_,h=>h
 | .list t,xs,cs,⟨A,n,c,e,ad,aN,h⟩=>⟨A,n,c,e,ad,aN,h.imp id λ⟨b,o,a1,e,aV,ag⟩=>⟨b,o,a1,e,aV.mono aT au,ag.imp λx c=>bA.mono aT au t x c⟩⟩
 | .pair a b,x,cs,⟨bj,ba,e,q,G⟩=>⟨bj,ba,e,bA.mono aT au a _ _ q,bA.mono aT au b _ _ G⟩
theorem bA.len {φ:bP} {w:bm}: ∀(t:az) (x:t.den) (cs:List aA),bA φ w t x cs->cs.length=t.size
 | .bool,_,_,h=>by simp[bA]at h;simp[h,az.size]
 | .int _,_,_,h=>by simp[bA]at h;simp[h,az.size]
 | .str,_,_,h=>by simp[bA]at h;simp[h,az.size]
 | .opq,_,_,h=>h.elim
 | .unit,_,_,h=>by simp[bA]at h;simp[h,az.size]
 | .list t,xs,cs,⟨A,n,c,e,_⟩=>by simp[e,az.size]
 | .pair a b,x,cs,⟨bj,ba,e,q,G⟩=>by simp[e,az.size,bA.len a _ _ q,bA.len b _ _ G]
theorem bA.one {φ:bP} {w:bm}: ∀(t:az) (x:t.den) (cs:List aA),bA φ w t x cs-> ∀v∈cs,v.oneCell'=true
 | .bool,_,_,h=>by simp[bA]at h;simp[h];rfl
 | .int _,_,_,h=>by simp[bA]at h;simp[h];rfl
 | .str,_,_,h=>by simp[bA]at h;simp[h];rfl
 | .opq,_,_,h=>h.elim
 | .unit,_,_,h=>by simp[bA]at h;simp[h]
 | .list t,xs,cs,⟨A,n,c,e,_⟩=>by simp[e];rfl
 | .pair a b,x,cs,⟨bj,ba,e,q,G⟩=>by
  subst e;intro v a8;rcases dn.1 a8 with a8 |a8
  ·exact bA.one a _ _ q v a8
  ·exact bA.one b _ _ G v a8
section chunks
variable {α:Type} {R:α->List aA->Prop} {d:Nat}
theorem c4.len (af: ∀x c,R x c->c.length=d): ∀(xs:List α) (cs:List aA),c4 R xs cs->cs.length=xs.length*d
 |[],_,e=>by simp[c4]at e;simp[e]
 |_::xs,_,⟨bj,ba,e,r,k⟩=>by simp[e,af _ _ r,c4.len af xs ba k,Nat.add_mul,Nat.add_comm]
theorem c4.get (af: ∀x c,R x c->c.length=d): ∀(xs:List α) (cs:List aA),c4 R xs cs-> ∀i x,xs[i]? =some x->R x ((cs.drop (i*d)).take d)
 |[],_,_,i,x,an=>by simp at an
 |y::xs,_,⟨bj,ba,e,r,k⟩,i,x,an=>by
  subst e;cases i with
  |zero=>
   simp at an;subst an;have:=af _ _ r;subst this;simpa using r
  |succ i=>
   have C9:xs[i]? =some x:=by simpa using an
   have:=c4.get af xs ba k i x C9;rw[show (i+1)*d=bj.length+i*d by rw[af _ _ r,Nat.add_mul];omega,<-List.drop_drop,List.drop_left];exact this
theorem c4.append: ∀(xs a1:List α) (cs fi:List aA),c4 R xs cs->c4 R a1 fi->c4 R (xs++a1) (cs++fi)
 |[],_,_,_,e,h=>by simp[c4]at e;subst e;simpa using h
 |_::xs,a1,_,fi,⟨bj,ba,e,r,k⟩,h=>⟨bj,ba++fi,by simp[e],r,c4.append xs a1 ba fi k h⟩
theorem c4.drop (af: ∀x c,R x c->c.length=d): ∀(i:Nat) (xs:List α) (cs:List aA),c4 R xs cs->c4 R (xs.drop i) (cs.drop (i*d))
 |0,xs,cs,h=>by simpa using h
 |i+1,[],cs,h=>by simp[c4]at h ⊢;simp[h]
 |i+1,_::xs,_,⟨bj,ba,e,r,k⟩=>by
  subst e;have M:(bj++ba).drop ((i+1)*d)=ba.drop (i*d):=by rw[show (i+1)*d=bj.length+i*d by rw[af _ _ r,Nat.add_mul];omega,<-List.drop_drop,List.drop_left]
  rw[M];exact c4.drop af i xs ba k
theorem c4.take (af: ∀x c,R x c->c.length=d): ∀(i:Nat) (xs:List α) (cs:List aA),c4 R xs cs->c4 R (xs.take i) (cs.take (i*d))
 |0,xs,cs,h=>by simp[c4]
 |i+1,[],cs,h=>by simp[c4]at h ⊢;simp[h]
 |i+1,_::xs,_,⟨bj,ba,e,r,k⟩=>by subst e;refine ⟨bj,ba.take (i*d),?_,r,c4.take af i xs ba k⟩;rw[show (i+1)*d=bj.length+i*d by rw[af _ _ r,Nat.add_mul];omega,List.take_length_add_append]
theorem c4.set (af: ∀x c,R x c->c.length=d): ∀(xs:List α) (cs:List aA),c4 R xs cs-> ∀(i:Nat) (x:α) (c:List aA),i<xs.length->R x c->c4 R (xs.set i x) (cs.take (i*d)++c++cs.drop (i*d+d))
 |[],_,_,i,x,c,E,_=>by simp at E
 |y::xs,_,⟨bj,ba,e,r,k⟩,i,x,c,E,ar=>by
  subst e;cases i with
  |zero=>
   refine ⟨c,ba,?_,ar,k⟩;have:=af _ _ r;subst this;simp
  |succ i=>
   have aO:=c4.set af xs ba k i x c (by simpa using E) ar;refine ⟨bj,_,?_,r,aO⟩;have M:(i+1)*d=bj.length+i*d:=by rw[af _ _ r,Nat.add_mul];omega
   rw[M,List.take_length_add_append,show bj.length+i*d+d=bj.length+(i*d+d) by omega,<-List.drop_drop,List.drop_left];simp
theorem c4.replicate {x:α} {c:List aA} (ar:R x c): ∀n,c4 R (List.replicate n x) ((List.replicate n c).flatten)
 |0=>by simp[c4]
 |n+1=>⟨c,(List.replicate n c).flatten,by simp[List.replicate_succ],ar,c4.replicate ar n⟩
end chunks
def kb:aA->Bool
 | .agg _=>true |_=>false
def cJ (φ:bP) (w:bm) (t:az) (x:t.den) (v:aA):Prop:=bA φ w t x v.cells.toList/\kb v=t.isAgg
theorem rK {v:aA} (h:kb v=false):v.cells= #[v]:=by cases v<;>first |rfl |(simp[kb]at h)
theorem uW {v:aA} (h:kb v=true): ∃cs,v=.agg cs:=by cases v<;>first |exact ⟨_,rfl⟩|(simp[kb]at h)
theorem cJ.int {φ:bP} {w:bm} {k:IntKind} {x:Int} {v:aA}:cJ φ w (.int k) x v↔v=.int k x:=by
 constructor
 ·rintro ⟨q,G⟩;rw[rK G]at q;simpa [bA] using q
 ·rintro rfl;exact ⟨rfl,rfl⟩
theorem cJ.bool {φ:bP} {w:bm} {x:Bool} {v:aA}:cJ φ w .bool x v↔v=.bool x:=by
 constructor
 ·rintro ⟨q,G⟩;rw[rK G]at q;simpa [bA] using q
 ·rintro rfl;exact ⟨rfl,rfl⟩
theorem cJ.str {φ:bP} {w:bm} {x:List UInt8} {v:aA}:cJ φ w .str x v↔v=.string ⟨⟨x⟩⟩:=by
 constructor
 ·rintro ⟨q,G⟩;rw[rK G]at q;simpa [bA] using q
 ·rintro rfl;exact ⟨rfl,rfl⟩
theorem cJ.list {φ:bP} {w:bm} {t:az} {xs:List t.den} {v:aA} (h:cJ φ w (.list t) xs v):
  ∃A n c,v=.slice A n c/\xs.length=n/\n<=c/\(n=0\/ ∃b o a1,A=some ⟨b,o,none⟩/\kz φ w b o a1/\c4 (bA φ w t) xs a1):=by
 obtain ⟨q,G⟩:=h;rw[rK G]at q;obtain ⟨A,n,c,e,h⟩:=q;exact ⟨A,n,c,by simpa using e,h⟩
def mX:Option Nat->aA
 |some f=>.func (.func f) #[] #[] |none=>.nilFunc
mutual
def K.rel (φ:bP) (ι:Nat->aA) (w:bm):K->aA->Prop
 | .undef,_=>True
 | .dat t x,v=>cJ φ w t x v
 | .clip t xs,v=> ∃A n,v=.slice A n n/\bA φ w (.list t) xs [v]
 | .nilv,v=>v=.slice none 0 0
 | .nils _ _,v=>v=.slice none 0 0
 | .own _ o,v=>v=ι o/\ ∃A n c,v=.slice A n c
 | .view t o aR E,v=> ∃A n c di,ι o=.slice A n c/\aR<=E/\E<=n/\n<=c/\v=.slice di (E-aR) (c-aR)/\(c≠aR->di=A.map (·.add (aR*t.size)))/\(c≠0-> ∃b k,A=some ⟨b,k,none⟩)
 | .ptr o t i p,v=> ∃b k,((∃n c,ι o=.slice (some ⟨b,k,none⟩) n c/\i<n)\/(ι o=.pointer (some ⟨b,0,none⟩)/\i=0/\k=0))/\v=.pointer (some ⟨b,k+i*t.size+t.offAt p,none⟩)/\(t.at_ p).isSome
 | .fptr t x,v=> ∃b o cs,v=.pointer (some ⟨b,o,none⟩)/\kz φ w b o cs/\bA φ w t x cs
 | .agg l,v=> ∃cs,v=.agg cs/\K.relL φ ι w l cs.toList
 | .tup l,v=> ∃aQ,v=.tuple aQ/\K.relT φ ι w l aQ.toList
 | .fn f a b,v=> ∃x y,v=.func (.func f) x y/\K.relT φ ι w a x.toList/\K.relT φ ι w b y.toList
 | .iface T r,v=> ∃ae,v=.iface T ae/\r.rel φ ι w ae
 | .nilI,v=>v=.nilIface
 | .nilF,v=>v=.nilFunc
 | .nilP,v=>v=.pointer none
 | .lim t xs c,v=> ∃A n,v=.slice A n c/\bA φ w (.list t) xs [v]
 | .atl n,v=> ∃c:Nat,v=.int .i64 (c:Int)/\n<=c
 | .yld _ o,v=>v=ι o/\ ∃l,v=.func (.yield l) #[] #[]
 | .gp b off l,v=>v=.pointer (some ⟨b,off,none⟩)/\kz φ w b off (l.map mX)
 | .dfr f a b t xs,v=> ∃aQ:List aA,v=.tuple aQ.toArray/\aQ.length=xs.length/\ ∀(i:Nat) (x:t.den) (ae:aA),xs[i]? =some x->aQ[i]? =some ae-> ∃bj lH ba,ae=.func (.func f) #[] (bj++lH::ba).toArray/\K.relT φ ι w a bj/\(∃fr o cs,lH=.pointer (some ⟨fr,o,none⟩)/\kz φ w fr o cs/\bA φ w t x cs)/\K.relT φ ι w b ba
def K.relL (φ:bP) (ι:Nat->aA) (w:bm):List K->List aA->Prop
 |[],cs=>cs=[]
 |r::l,cs=> ∃v ba,cs=v.cells.toList++ba/\r.rel φ ι w v/\K.relL φ ι w l ba
def K.relT (φ:bP) (ι:Nat->aA) (w:bm):List K->List aA->Prop
 |[],aQ=>aQ=[]
 |r::l,aQ=> ∃v m,aQ=v::m/\r.rel φ ι w v/\K.relT φ ι w l m
end
def dN:aA->Option Nat
 | .slice (some a) _ c=>if c=0 then none else some a.block
 | .pointer (some a)=>some a.block
 | .func (.yield l) _ _=>some l
 |_=>none
def sD:aA->Nat
 | .slice (some a) _ _=>a.off
 |_=>0
def aH.owns:aH->Bool
 | .arr ..=>true | .box ..=>true | .iter ..=>true | .loop ..=>true |_=>false
def aH.live:aH->Bool
 | .hole=>false |_=>true
def sR (c7:Nat×Nat) (n:Nat):Prop:= ∀k,k<n-> ¬(c7.1<=k/\k<c7.2)
structure yf (t:az) (c7:Nat×Nat) (n:Nat):Prop where
 ok:sR c7 n
 last:t=.int .u8\/ ¬(c7.1<=n/\n<c7.2)
instance {t:az} {c7:Nat×Nat} {n:Nat}:CoeFun (yf t c7 n) λ_=> ∀k,k<n-> ¬(c7.1<=k/\k<c7.2):=⟨yf.ok⟩
structure Cells (φ:bP) (w:bm) (t:az) (n:Nat) (cur:Array aA):Prop where
 one: ∀v∈cur.toList,v.oneCell'=true
 rest:t=.int .u8\/ ∃eO:List t.den,c4 (bA φ w t) eO (cur.toList.drop (n*t.size))
instance {φ:bP} {w:bm} {t:az} {n:Nat} {cur:Array aA}:CoeFun (Cells φ w t n cur) λ_=> ∀v,v∈cur.toList->v.oneCell'=true:=⟨Cells.one⟩
theorem Cells.mono {φ ax:bP} {w aq:bm} {t:az} {n:Nat} {cur:Array aA} (aT: ∀b k,φ b k->ax b k) (au: ∀b k,φ b k->aq.cell? ⟨b,k,none⟩=w.cell? ⟨b,k,none⟩) (h:Cells φ w t n cur):Cells ax aq t n cur:=
 ⟨h.one,h.rest.imp id λ⟨eO,bK⟩=>⟨eO,bK.imp λx c=>bA.mono aT au t x c⟩⟩
theorem Cells.all {φ:bP} {w:bm} {t:az} {n:Nat} {cur:Array aA} {xs:List t.den} (h:Cells φ w t n cur) (ag:c4 (bA φ w t) xs (cur.toList.take (n*t.size))):t=.int .u8\/ ∃eO:List t.den,c4 (bA φ w t) (xs++eO) cur.toList:=
 h.rest.imp id λ⟨eO,bK⟩=>⟨eO,by have:=c4.append _ _ _ _ ag bK;rwa [List.take_append_drop]at this⟩
theorem Cells.at_ {φ:bP} {w:bm} {t:az} {n:Nat} {cur:Array aA} {xs:List t.den} (h:Cells φ w t n cur) (ag:c4 (bA φ w t) xs (cur.toList.take (n*t.size))) (j:Nat):t=.int .u8\/ ∃eO:List t.den,c4 (bA φ w t) eO (cur.toList.drop (j*t.size)):=
 (h.all ag).imp id λ⟨eO,bK⟩=>⟨_,bK.drop (λx c=>bA.len t x c) j⟩
theorem N3 {α:Type} {l news:List α} {a I:Nat} (aV:a<=l.length) (ao:a+news.length<=I):(l.take a++news++l.drop (a+news.length)).drop I=l.drop I:=by rw[List.drop_append,List.drop_of_length_le (by simp;omega),List.nil_append,List.drop_drop];congr 1;simp;omega
def Qo:ei->Code
 | .nrm=>.skip | .ret=>.ret | .exit i=>.exit i
def Uc (rec:Loop) (p:Int):Prop:=
 (p=0/\rec.state=.ready/\rec.pending=none)\/(p= -1/\rec.state=.busy)\/ ∃e:ei,p=nW e/\e≠ .nrm/\rec.state=.done/\rec.pending=some (Qo e)
structure Hs [Env] (φ:bP) (ι:Nat->aA) (w:bm) (l:Nat) (rec:Loop) (c:nq) (Y:Nat) (R:bS) (p:Int):Prop where
 code:Env.code Y=some c
 heap:w.heap[l]? =some (.loop rec)
 params:rec.params.toList=c.params
 assign:rec.assign=c.assign
 body:rec.body=c.body
 nt:rec.tmps.size=c.nt
 st:Uc rec p
 regs: ∀s∈R,s.2.rel φ ι w (rec.tmps.getD s.1 undef)
 phi: ∀k,¬φ l k
section
variable [Env]
def jE (φ:bP) (ι:Nat->aA) (w:bm) (o:Nat):aH->Prop
 | .hole=>True
 | .gone=>True
 | .arr e t xs fz=> ∃A n c,ι o=.slice A n c/\xs.length=n/\n<=c/\c<=maxLen/\(c=0\/
   ∃b pre cur c7,A=some ⟨b,pre.size,none⟩/\w.heap[b]? =some (.cells (pre++cur) e c7)/\cur.size=c*t.size/\yf t c7 (pre.size+cur.size)/\(∀v∈pre.toList,v.oneCell'=true)/\Cells φ w t n cur/\
    c4 (bA φ w t) xs (cur.toList.take (n*t.size))/\(∀k,φ b k->fz=true/\pre.size<=k/\k<pre.size+n*t.size)/\(fz=true-> ∀k,k<n*t.size->φ b (pre.size+k)))
 | .box T t r=> ∃b cur c7 v,ι o=.pointer (some ⟨b,0,none⟩)/\w.heap[b]? =some (.cells cur T c7)/\cur.size=t.size/\sR c7 cur.size/\(∀v∈cur.toList,v.oneCell'=true)/\
    r.rel φ ι w v/\v.cells=cur/\r.fits t=true/\(∀k,¬φ b k)
 | .iter d pos=> ∃(b n:Nat),ι o=.pointer (some ⟨b,0,none⟩)/\w.heap[b]? =some (.stringIter ⟨⟨d⟩⟩ n)/\pos=n/\(∀k,¬φ b k)
 | .loop Y R p=> ∃(l:Nat) (rec:Loop) (c:nq),ι o=.func (.yield l) #[] #[]/\Hs φ ι w l rec c Y R p
def j1 (ι:Nat->aA) (J:List aH) (b:Nat):Prop:= ∃o,(aG J o).owns=true/\dN (ι o)=some b
structure ck (φ:bP) (ι:Nat->aA) (w:bm) (J:List aH):Prop where
 obj: ∀o,jE φ ι w o (aG J o)
 apart: ∀o dV b,(aG J o).owns=true->(aG J dV).owns=true->dN (ι o)=some b->dN (ι dV)=some b->o=dV
 phi: ∀b k,φ b k-> ∃v,w.cell? ⟨b,k,none⟩=some v
 ids: ∀o,∀i∈(aG J o).ids,(aG J i).live=true
 glob: ∀g,kz φ w g 0 ((Env.glob g).map mX)
theorem ck.idsB {φ:bP} {ι:Nat->aA} {w:bm} {J:List aH} (h:ck φ ι w J) (o:Nat) (T:bs) (t:az) (r:K) (L:aG J o=.box T t r) (i:Nat) (E:i∈r.ids):(aG J i).live=true:=h.ids o i (by rw[L];exact E)
end
structure Step (φ:bP) (ι:Nat->aA) (w:bm) (J:List aH) (ax:bP) (aJ:Nat->aA) (aq:bm) (aB:List aH):Prop where
 phi: ∀b k,φ b k->ax b k
 cells: ∀b k,φ b k->aq.cell? ⟨b,k,none⟩=w.cell? ⟨b,k,none⟩
 newphi: ∀b k,ax b k->φ b k\/w.heap.size<=b\/j1 ι J b
 size:w.heap.size<=aq.heap.size
 os:aq.os=w.os
 tape:aq.tape=w.tape
 output:aq.output=w.output
 blocks: ∀b,b<w.heap.size-> ¬j1 ι J b->aq.heap[b]? =w.heap[b]?
 own: ∀b,j1 aJ aB b->w.heap.size<=b\/j1 ι J b
structure eo (ι:Nat->aA) (J:List aH) (aJ:Nat->aA) (aB:List aH):Prop where
 iota: ∀o,(aG J o).live=true->aJ o=ι o
 live: ∀o,(aG J o).live=true->(aG aB o).live=true
theorem eo.refl (ι:Nat->aA) (J:List aH):eo ι J ι J:=⟨λ_ _=>rfl,λ_ h=>h⟩
theorem eo.trans {ι aJ hM:Nat->aA} {J aB mM:List aH} (h:eo ι J aJ aB) (k:eo aJ aB hM mM):eo ι J hM mM:=
 ⟨λo ab=>(k.iota o (h.live o ab)).trans (h.iota o ab),λo ab=>k.live o (h.live o ab)⟩
theorem Step.refl (φ:bP) (ι:Nat->aA) (w:bm) (J:List aH):Step φ ι w J φ ι w J:=
 ⟨λ_ _ h=>h,λ_ _ _=>rfl,λ_ _ h=>.inl h,ca _,rfl,rfl,rfl,λ_ _ _=>rfl,λ_ h=>.inr h⟩
theorem Step.trans {φ:bP} {ι:Nat->aA} {w:bm} {J:List aH} {ax:bP} {aJ:Nat->aA} {aq:bm} {aB:List aH} {E3:bP} {hM:Nat->aA} {Er:bm} {mM:List aH}
  (h:Step φ ι w J ax aJ aq aB) (k:Step ax aJ aq aB E3 hM Er mM):Step φ ι w J E3 hM Er mM where
 phi b i L:=k.phi b i (h.phi b i L)
 cells b i L:=(k.cells b i (h.phi b i L)).trans (h.cells b i L)
 newphi b i L:=by
  rcases k.newphi b i L with q |q |q
  ·exact h.newphi b i q
  ·exact .inr (.inl (Nat.le_trans h.size q))
  ·exact .inr (h.own b q)
 size:=Nat.le_trans h.size k.size
 os:=k.os.trans h.os
 tape:=k.tape.trans h.tape
 output:=k.output.trans h.output
 blocks b L ab:=by
  have aN: ¬j1 aJ aB b:=λau=>(h.own b au).elim (λq=>u) ab
  rw[k.blocks b (Nat.lt_of_lt_of_le L h.size) aN];exact h.blocks b L ab
 own b L:=by
  rcases k.own b L with q |q
  ·exact .inl (Nat.le_trans h.size q)
  ·exact h.own b q
theorem cJ.mono {φ ax:bP} {w aq:bm} (aT: ∀b k,φ b k->ax b k) (au: ∀b k,φ b k->aq.cell? ⟨b,k,none⟩=w.cell? ⟨b,k,none⟩) {t:az} {x:t.den} {v:aA} (h:cJ φ w t x v):cJ ax aq t x v:=
 ⟨bA.mono aT au _ _ _ h.1,h.2⟩
mutual
theorem K.rel_mono {φ ax:bP} {ι aJ:Nat->aA} {w aq:bm} (aT: ∀b k,φ b k->ax b k) (au: ∀b k,φ b k->aq.cell? ⟨b,k,none⟩=w.cell? ⟨b,k,none⟩):
  ∀(r:K) (v:aA),(∀i∈r.ids,aJ i=ι i)->r.rel φ ι w v->r.rel ax aJ aq v
 | .undef,_,_,_=>trivial
 | .dat t x,v,_,h=>cJ.mono aT au h
 | .clip t xs,v,_,⟨A,n,e,h⟩=>⟨A,n,e,bA.mono aT au _ _ _ h⟩
 | .nilv,_,_,h=>h
 | .nils _ _,_,_,h=>h
 | .own t o,v,E,h=>by simp only[K.rel]at h ⊢;rw[E o (by simp[K.ids])];exact h
 | .view t o aR dO,v,E,h=>by simp only[K.rel]at h ⊢;rw[E o (by simp[K.ids])];exact h
 | .ptr o t i p,v,E,h=>by simp only[K.rel]at h ⊢;rw[E o (by simp[K.ids])];exact h
 | .fptr t x,v,_,⟨b,o,cs,e,q,G⟩=>⟨b,o,cs,e,q.mono aT au,bA.mono aT au _ _ _ G⟩
 | .agg l,v,E,⟨cs,e,h⟩=>⟨cs,e,K.relL_mono aT au l _ (λi h=>E i (by simpa [K.ids] using h)) h⟩
 | .tup l,v,E,⟨cs,e,h⟩=>⟨cs,e,K.relT_mono aT au l _ (λi h=>E i (by simpa [K.ids] using h)) h⟩
 | .fn f a b,v,E,⟨x,y,e,q,G⟩=>⟨x,y,e,K.relT_mono aT au a _ (λi h=>E i (by simp[K.ids,h])) q,K.relT_mono aT au b _ (λi h=>E i (by simp[K.ids,h])) G⟩
 | .iface T r,v,E,⟨ae,e,h⟩=>⟨ae,e,K.rel_mono aT au r ae (λi h=>E i (by simpa [K.ids] using h)) h⟩
 | .nilI,_,_,h=>h
 | .nilF,_,_,h=>h
 | .nilP,_,_,h=>h
 | .atl _,_,_,h=>h
 | .lim t xs c,v,_,⟨A,n,e,h⟩=>⟨A,n,e,bA.mono aT au _ _ _ h⟩
 | .yld Y o,v,E,h=>by simp only[K.rel]at h ⊢;rw[E o (by simp[K.ids])];exact h
 | .gp b off l,v,_,⟨e,h⟩=>⟨e,h.mono aT au⟩
 | .dfr f a b t xs,v,E,⟨aQ,e,ad,h⟩=>⟨aQ,e,ad,λi x ae an hu=>
   let ⟨bj,lH,ba,M,q,⟨fr,o,cs,V,G,W⟩,aC⟩:=h i x ae an hu
   ⟨bj,lH,ba,M,K.relT_mono aT au a _ (λi h=>E i (by simp[K.ids,h])) q,⟨fr,o,cs,V,G.mono aT au,bA.mono aT au _ _ _ W⟩,K.relT_mono aT au b _ (λi h=>E i (by simp[K.ids,h])) aC⟩⟩
theorem K.relL_mono {φ ax:bP} {ι aJ:Nat->aA} {w aq:bm} (aT: ∀b k,φ b k->ax b k) (au: ∀b k,φ b k->aq.cell? ⟨b,k,none⟩=w.cell? ⟨b,k,none⟩):
  ∀(l:List K) (cs:List aA),(∀i∈K.idsL l,aJ i=ι i)->K.relL φ ι w l cs->K.relL ax aJ aq l cs
 |[],_,_,h=>h
 |r::l,_,E,⟨v,ba,e,q,G⟩=>⟨v,ba,e,K.rel_mono aT au r v (λi h=>E i (by simp[K.idsL,h])) q,K.relL_mono aT au l ba (λi h=>E i (by simp[K.idsL,h])) G⟩
theorem K.relT_mono {φ ax:bP} {ι aJ:Nat->aA} {w aq:bm} (aT: ∀b k,φ b k->ax b k) (au: ∀b k,φ b k->aq.cell? ⟨b,k,none⟩=w.cell? ⟨b,k,none⟩):
  ∀(l:List K) (aQ:List aA),(∀i∈K.idsL l,aJ i=ι i)->K.relT φ ι w l aQ->K.relT ax aJ aq l aQ
 |[],_,_,h=>h
 |r::l,_,E,⟨v,ba,e,q,G⟩=>⟨v,ba,e,K.rel_mono aT au r v (λi h=>E i (by simp[K.idsL,h])) q,K.relT_mono aT au l ba (λi h=>E i (by simp[K.idsL,h])) G⟩
end
theorem K.rel_step {φ:bP} {ι:Nat->aA} {w:bm} {J:List aH} {ax:bP} {aJ:Nat->aA} {aq:bm} {aB:List aH} {r:K} {v:aA}
  (d:Step φ ι w J ax aJ aq aB) (k:eo ι J aJ aB) (ad: ∀i∈r.ids,(aG J i).live=true) (h:r.rel φ ι w v):r.rel ax aJ aq v:=
 K.rel_mono d.phi d.cells r v (λi E=>k.iota i (ad i E)) h
open Go.RowKit
theorem DT.val_bind {α β:Type} (x:DT α) (f:α->DT β):(x.bind f).val=x.val.bind λa=>(f a).val:=by
 induction x with
 |leaf a=>rfl
 |fail=>rfl
 |br b x y jw jx=>simp only[DT.bind,DT.val,jw,jx];cases b<;>rfl
 |opt o k aO=>cases o with
  |none=>rfl
  |some r=>simp only[DT.bind,DT.val];exact aO r
 |alt o k h pq Sr=>cases o with
  |none=>rfl
  |some r=>cases r with
   |inl r=>simp only[DT.bind,DT.val];exact pq r
   |inr r=>simp only[DT.bind,DT.val];exact Sr r
theorem DT.val_bind_some {α β:Type} {x:DT α} {f:α->DT β} {b:β} (h:(x.bind f).val=some b): ∃a,x.val=some a/\(f a).val=some b:=by rw[DT.val_bind]at h;exact Option.bind_eq_some_iff.1 h
theorem DT.val_ofOpt {α:Type} (o:Option α):(DT.ofOpt o).val=o:=by cases o<;>rfl
namespace HM
variable {α β:Type}
def go:HM α->List aH->Nat->Option (α×List aH×Nat)
 |ret a,h,n=>some (a,h,n)
 |fail,_,_=>none
 |br b x y,h,n=>bif b then x.go h n else y.go h n
 |opt o k,h,n=>match o with |some r=>(k r).go h n |none=>none
 |alt o k l,h,n=>match o with |some (.inl r)=>(k r).go h n |some (.inr r)=>(l r).go h n |none=>none
 |rdc o k,h,n=>(k (aG h o).mask).go h n
 |frz o k,h,n=>k.go (cc h o (aG h o).freeze) n
 |rdw o k,h,n=>(k (aG h o)).go h n
 |wr o b k,h,n=>k.go (cc h o b) n
 |nw b k,h,n=>(k n).go (cc h n b) (n+1)
 |nxt k,h,n=>(k n).go h n
theorem go_run (x:HM α): ∀(h:List aH) (n:Nat) (p:dk) (a:α) (cy:List aH) (aE:Nat) (hv:dk),(x.run h n p).val=some (a,cy,aE,hv)->x.go h n=some (a,cy,aE):=by
 induction x with
 |ret a=>intro h n p a cy aE hv e;simp only[run,DT.val,bM,c0]at e;obtain ⟨rfl,rfl,rfl,_⟩:=e;rfl
 |fail=>intro h n p a cy aE hv e;simp[run,DT.val]at e
 |br b x y jw jx=>
  intro h n p a cy aE hv e;simp only[run,DT.val]at e;cases b
  ·exact jx _ _ _ _ _ _ _ e
  ·exact jw _ _ _ _ _ _ _ e
 |opt o k aO=>
  intro h n p a cy aE hv e;cases o with
  |none=>simp[run,DT.val]at e
  |some r=>exact aO r _ _ _ _ _ _ _ e
 |alt o k l pq vK=>
  intro h n p a cy aE hv e;cases o with
  |none=>simp[run,DT.val]at e
  |some r=>cases r with
   |inl r=>exact pq r _ _ _ _ _ _ _ e
   |inr r=>exact vK r _ _ _ _ _ _ _ e
 |rdc o k aO=>intro h n p a cy aE hv e;exact aO _ _ _ _ _ _ _ _ e
 |frz o k aO=>intro h n p a cy aE hv e;exact aO _ _ _ _ _ _ _ e
 |rdw o k aO=>intro h n p a cy aE hv e;exact aO _ _ _ _ _ _ _ _ e
 |wr o b k aO=>intro h n p a cy aE hv e;exact aO _ _ _ _ _ _ _ e
 |nw b k aO=>intro h n p a cy aE hv e;exact aO _ _ _ _ _ _ _ _ e
 |nxt k aO=>intro h n p a cy aE hv e;exact aO _ _ _ _ _ _ _ _ e
theorem go_bind (x:HM α) (f:α->HM β): ∀(h:List aH) (n:Nat),(x.bind f).go h n=(x.go h n).bind λs=>(f s.1).go s.2.1 s.2.2:=by
 induction x with
 |ret a=>intro h n;rfl
 |fail=>intro h n;rfl
 |br b x y jw jx=>intro h n;simp only[bind,go,jw,jx];cases b<;>rfl
 |opt o k aO=>intro h n;cases o with
  |none=>rfl
  |some r=>exact aO r h n
 |alt o k l pq vK=>intro h n;cases o with
  |none=>rfl
  |some r=>cases r with
   |inl r=>exact pq r h n
   |inr r=>exact vK r h n
 |rdc o k aO=>intro h n;exact aO _ h n
 |frz o k aO=>intro h n;exact aO _ n
 |rdw o k aO=>intro h n;exact aO _ h n
 |wr o b k aO=>intro h n;exact aO _ n
 |nw b k aO=>intro h n;exact aO _ _ _
 |nxt k aO=>intro h n;exact aO _ h n
theorem go_bind_some {x:HM α} {f:α->HM β} {h:List aH} {n:Nat} {r:β×List aH×Nat} (e:(x.bind f).go h n=some r): ∃a q cG,x.go h n=some (a,q,cG)/\(f a).go q cG=some r:=by rw[go_bind]at e;obtain ⟨s,aP,ar⟩:=Option.bind_eq_some_iff.1 e;exact ⟨s.1,s.2.1,s.2.2,aP,ar⟩
theorem go_ofOpt (o:Option α) (h:List aH) (n:Nat):(ofOpt o).go h n=o.map λa=>(a,h,n):=by cases o<;>rfl
theorem go_ofDT (x:DT α) (h:List aH) (n:Nat):(ofDT x).go h n=x.val.map λa=>(a,h,n):=by
 induction x with
 |leaf a=>rfl
 |fail=>rfl
 |br b x y jw jx=>simp only[ofDT,go,DT.val,jw,jx];cases b<;>rfl
 |opt o k aO=>cases o with
  |none=>rfl
  |some r=>exact aO r
 |alt o k h pq Sr=>cases o with
  |none=>rfl
  |some r=>cases r with
   |inl r=>exact pq r
   |inr r=>exact Sr r
theorem go_chk {b:Bool} {x:HM α} {h:List aH} {n:Nat} {r:α×List aH×Nat} (e:(chk b x).go h n=some r):b=true/\x.go h n=some r:=by
 cases b
 ·simp[chk,go]at e
 ·exact ⟨rfl,e⟩
end HM
theorem gO (J:List aH) (o:Nat) (b:aH) (i:Nat) (ab:o<=J.length):aG (cc J o b) i=if i=o then b else aG J i:=by
 unfold aG
 induction J generalizing o i with
 |nil=>
  have:o=0:=by simpa using ab
  subst this;cases i with
  |zero=>rfl
  |succ i=>simp[cc]
 |cons a l aO=>
  cases o with
  |zero=>cases i<;>simp[cc]
  |succ o=>
   cases i with
   |zero=>simp[cc]
   |succ i=>
    have:=aO o i (by simpa using ab);simpa [cc] using this
theorem ik (J:List aH) (o:Nat) (b:aH) (ab:o<J.length):(cc J o b).length=J.length:=by
 induction J generalizing o with
 |nil=>simp at ab
 |cons a l aO=>cases o with
  |zero=>rfl
  |succ o=>simpa [cc] using aO o (by simpa using ab)
theorem tI (J:List aH) (b:aH):(cc J J.length b).length=J.length+1:=by
 induction J with
 |nil=>rfl
 |cons a l aO=>simpa [cc] using aO
theorem gP {J:List aH} {o:Nat} (h:(aG J o).live=true):o<J.length:=by
 rcases Nat.lt_or_ge o J.length with q |q
 ·exact q
 ·simp[aG,jQ,List.getElem?_eq_none q,aH.live]at h
theorem bS.mem_ids {R:bS} {s:Nat×K} (h:s∈R): ∀i∈s.2.ids,i∈R.ids:=by
 induction R with
 |nil=>cases h
 |cons p l aO=>
  intro i E;simp only[bS.ids,dn];rcases fe.1 h with rfl |h
  ·exact .inl E
  ·exact .inr (aO h i E)
theorem bS.ids_mem {R:bS} {i:Nat} (h:i∈R.ids): ∃s∈R,i∈s.2.ids:=by
 induction R with
 |nil=>simp[bS.ids]at h
 |cons p l aO=>
  simp only[bS.ids,dn]at h;rcases h with h |h
  ·exact ⟨p,aU,h⟩
  ·obtain ⟨s,q,G⟩:=aO h;exact ⟨s,by simp[q],G⟩
theorem jE.keep [Env] {φ ax:bP} {ι aJ:Nat->aA} {w aq:bm} {o:Nat} {dh:aH} (aT: ∀b k,φ b k->ax b k) (au: ∀b k,φ b k->aq.cell? ⟨b,k,none⟩=w.cell? ⟨b,k,none⟩)
  (E:dh.live=true->aJ o=ι o) (fs: ∀i∈dh.ids,aJ i=ι i) (L: ∀b,dh.owns=true->dN (ι o)=some b->aq.heap[b]? =w.heap[b]? /\ ∀k,ax b k->φ b k) (h:jE φ ι w o dh):jE ax aJ aq o dh:=by
 cases dh with
 |hole=>trivial
 |gone=>trivial
 |arr e t xs fz=>
  obtain ⟨A,n,c,M,V,aY,bp,h⟩:=h;refine ⟨A,n,c,(E rfl).trans M,V,aY,bp,?_⟩;rcases h with h |⟨b,pre,cur,c7,rfl,q,G,W,bW,aC,bd,bD,dU⟩
  ·exact .inl h
  ·by_cases hk:c=0
   ·exact .inl hk
   ·obtain ⟨bg,vz⟩:=L b rfl (by rw[M];simp[dN,hk]);exact .inr ⟨b,pre,cur,c7,rfl,bg.trans q,G,W,bW,aC.mono aT au,bd.imp λx c=>bA.mono aT au t x c,λk ag=>bD k (vz k ag),λbK k ag=>aT _ _ (dU bK k ag)⟩
 |box T t r=>
  obtain ⟨b,cur,c7,v,M,q,G,W,aC,bd,bD,dU,gB⟩:=h;obtain ⟨bg,vz⟩:=L b rfl (by rw[M];rfl);exact ⟨b,cur,c7,v,(E rfl).trans M,bg.trans q,G,W,aC,K.rel_mono aT au r v fs bd,bD,dU,λk ag=>gB k (vz k ag)⟩
 |iter d pos=>
  obtain ⟨b,n,M,q,G,W⟩:=h;obtain ⟨bg,vz⟩:=L b rfl (by rw[M];rfl);exact ⟨b,n,(E rfl).trans M,bg.trans q,G,λk ag=>W k (vz k ag)⟩
 |loop Y R p=>
  obtain ⟨l,rec,c,M,q⟩:=h;obtain ⟨bg,vz⟩:=L l rfl (by rw[M];rfl);exact ⟨l,rec,c,(E rfl).trans M,⟨q.code,bg.trans q.heap,q.params,q.assign,q.body,q.nt,q.st,λs aP=>K.rel_mono aT au s.2 _ (λi E=>fs i (bS.mem_ids aP i E)) (q.regs s aP),λk ag=>q.phi k (vz k ag)⟩⟩
theorem jE.blk_arr [Env] {φ:bP} {ι:Nat->aA} {w:bm} {o:Nat} {e:bs} {t:az} {xs:List t.den} {fz:Bool} (h:jE φ ι w o (.arr e t xs fz)) {b:Nat} (L:dN (ι o)=some b):
  ∃n c pre cur c7,ι o=.slice (some ⟨b,pre.size,none⟩) n c/\xs.length=n/\n<=c/\c<=maxLen/\c≠0/\w.heap[b]? =some (.cells (pre++cur) e c7)/\cur.size=c*t.size/\yf t c7 (pre.size+cur.size)/\(∀v∈pre.toList,v.oneCell'=true)/\Cells φ w t n cur/\
    c4 (bA φ w t) xs (cur.toList.take (n*t.size))/\(∀k,φ b k->fz=true/\pre.size<=k/\k<pre.size+n*t.size)/\(fz=true-> ∀k,k<n*t.size->φ b (pre.size+k)):=by
 obtain ⟨A,n,c,M,V,aY,bp,h⟩:=h;rw[M]at L;rcases h with h |⟨bZ,pre,cur,c7,rfl,h⟩
 ·subst h;cases A<;>simp[dN]at L
 ·by_cases hk:c=0
  ·subst hk;simp[dN]at L
  ·have:bZ=b:=by simpa [dN,hk] using L
   subst this;exact ⟨n,c,pre,cur,c7,M,V,aY,bp,hk,h⟩
structure ff [Env] (φ:bP) (ι:Nat->aA) (w:bm) (J:List aH) (ax:bP) (aB:List aH):Prop where
 rel:ck ax ι w aB
 step:Step φ ι w J ax ι w aB
 live: ∀o,(aG aB o).live=(aG J o).live
 len:aB.length=J.length
theorem ff.refl [Env] {φ:bP} {ι:Nat->aA} {w:bm} {J:List aH} (h:ck φ ι w J):ff φ ι w J φ J:=⟨h,Step.refl _ _ _ _,λ_=>rfl,rfl⟩
theorem ff.keep [Env] {φ:bP} {ι:Nat->aA} {w:bm} {J:List aH} {ax:bP} {aB:List aH} (g:ff φ ι w J ax aB):eo ι J ι aB:=⟨λ_ _=>rfl,λo h=>(g.live o).trans h⟩
theorem ff.trans [Env] {φ:bP} {ι:Nat->aA} {w:bm} {J:List aH} {ax:bP} {aB:List aH} {E3:bP} {mM:List aH} (g:ff φ ι w J ax aB) (k:ff ax ι w aB E3 mM):ff φ ι w J E3 mM:=
 ⟨k.rel,g.step.trans k.step,λo=>(k.live o).trans (g.live o),k.len.trans g.len⟩
theorem aso (b:aH):b.freeze.live=b.live:=by cases b<;>rfl
theorem asp (b:aH):b.freeze.owns=b.owns:=by cases b<;>rfl
theorem Nw [Env] {φ:bP} {ι:Nat->aA} {w:bm} {J:List aH} (h:ck φ ι w J) (o:Nat) (ab:o<J.length):
  ∃ax,ff φ ι w J ax (cc J o (aG J o).freeze)/\(∀e t xs fz,aG J o=.arr e t xs fz-> ∀b k,dN (ι o)=some b->k<xs.length*t.size->ax b (sD (ι o)+k)):=by
 have bR: ∀i,aG (cc J o (aG J o).freeze) i=if i=o then (aG J o).freeze else aG J i:=λi=>gO J o _ i (Nat.le_of_lt ab)
 by_cases hT: ∃e t xs fz,aG J o=.arr e t xs fz
 ·obtain ⟨e,t,xs,fz,aV⟩:=hT;have cu:=h.obj o;rw[aV]at cu
  let ax:bP:=λb k=>φ b k\/(dN (ι o)=some b/\sD (ι o)<=k/\k<sD (ι o)+xs.length*t.size)
  have aT: ∀b k,φ b k->ax b k:=λb k L=>.inl L
  have m6: ∀i,(aG (cc J o (aG J o).freeze) i).owns=(aG J i).owns:=λi=>by
   rw[bR];split
   ·rename_i E;subst E;exact asp _
   ·rfl
  have e4: ∀i,(aG (cc J o (aG J o).freeze) i).live=(aG J i).live:=λi=>by
   rw[bR];split
   ·rename_i E;subst E;exact aso _
   ·rfl
  have oH: ∀b,j1 ι (cc J o (aG J o).freeze) b↔j1 ι J b:=λb=>by simp only[j1,m6]
  refine ⟨ax,⟨⟨?_,?_,?_,?_,λg=>(h.glob g).mono aT (λ_ _ _=>rfl)⟩,⟨aT,λ_ _ _=>rfl,?_,ca _,rfl,rfl,rfl,λ_ _ _=>rfl,λb L=>.inr ((oH b).1 L)⟩,e4,ik J o _ ab⟩,?_⟩
  ·intro i;rw[bR];split
   ·rename_i E;subst E;rw[aV];obtain ⟨A,n,c,M,V,aY,bp,bg⟩:=cu;refine ⟨A,n,c,M,V,aY,bp,?_⟩;rcases bg with bg |⟨b,pre,cur,c7,rfl,q,G,W,bW,aC,bd,bD,dU⟩
    ·exact .inl bg
    ·by_cases hk:c=0
     ·exact .inl hk
     ·have jV:dN (ι i)=some b:=by rw[M];simp[dN,hk]
      have yl:sD (ι i)=pre.size:=by rw[M];rfl
      refine .inr ⟨b,pre,cur,c7,rfl,q,G,W,bW,aC.mono aT (λ_ _ _=>rfl),bd.imp λx c=>bA.mono aT (λ_ _ _=>rfl) t x c,?_,?_⟩
      ·rintro k (ag |⟨kN,ku⟩)
       ·exact ⟨rfl,(bD k ag).2⟩
       ·rw[yl,V]at ku;exact ⟨rfl,ku⟩
      ·exact λ_ k ag=>.inr ⟨jV,by rw[yl,V];omega⟩
   ·rename_i E;refine (h.obj i).keep aT (λ_ _ _=>rfl) (λ_=>rfl) (λ_ _=>rfl) λb iG L=>⟨rfl,λk ag=> ?_⟩
    rcases ag with ag |⟨ag,_⟩
    ·exact ag
    ·exact absurd (h.apart i o b iG (by rw[aV];rfl) L ag) E
  ·intro i j b E al q G;rw[m6]at E al;exact h.apart i j b E al q G
  ·rintro b k (ag |⟨kN,ku⟩)
   ·exact h.phi b k ag
   ·obtain ⟨n,c,pre,cur,c7,M,V,aY,bp,hk,q,G,_⟩:=cu.blk_arr kN;have yl:sD (ι o)=pre.size:=by rw[M];rfl
    have hmul:n*t.size<=c*t.size:=gZ _ aY;rw[yl,V]at ku;have bw:k<(pre++cur).size:=by rw[Array.size_append,G];omega
    exact ⟨(pre++cur)[k],by simp[World.cell?,q,Array.getElem?_eq_getElem bw]⟩
  ·intro i j al;rw[bR]at al;rw[e4];split at al
   ·rw[aV]at al;simp[aH.freeze,aH.ids]at al
   ·exact h.ids i j al
  ·rintro b k (ag |⟨kN,_⟩)
   ·exact .inl ag
   ·exact .inr (.inr ⟨o,by rw[aV];rfl,kN⟩)
  ·intro ee iI hD kJ aeW b k L ag;rw[aV]at aeW;cases aeW;exact .inr ⟨L,Nat.le_add_right _ _,Nat.add_lt_add_left ag _⟩
 ·have afg:(aG J o).freeze=aG J o:=by
   cases dC:aG J o with
   |arr e t xs fz=>exact absurd ⟨e,t,xs,fz,dC⟩ hT
   |_=>rfl
  have C3: ∀i,aG (cc J o (aG J o).freeze) i=aG J i:=λi=>by
   rw[bR,afg];split
   ·rename_i E;subst E;rfl
   ·rfl
  refine ⟨φ,⟨⟨λi=> ?_,λi j b E al=> ?_,h.phi,λi j al=> ?_,h.glob⟩,⟨λ_ _ h=>h,λ_ _ _=>rfl,λ_ _ h=>.inl h,ca _,rfl,rfl,rfl,λ_ _ _=>rfl,λb L=>.inr ?_⟩,λi=>by rw[C3],ik J o _ ab⟩,λe t xs fz aV=>absurd ⟨e,t,xs,fz,aV⟩ hT⟩
  ·rw[C3];exact h.obj i
  ·rw[C3]at E al;exact h.apart i j b E al
  ·rw[C3]at al ⊢;exact h.ids i j al
  ·obtain ⟨i,q,G⟩:=L;rw[C3]at q;exact ⟨i,q,G⟩
open Go.RowKit
theorem hJ (b o k:Nat):(⟨b,o,none⟩:Addr).add k=⟨b,o+k,none⟩:=by unfold Addr.add;split<;>simp_all
theorem rP {t ae:az} {x:t.den} {y:ae.den} (h:t.cast? ae x=some y): ∃e:t=ae,y=e▸x:=by
 unfold az.cast? at h;split at h
 ·rename_i e;exact ⟨e,by simpa using h.symm⟩
 ·cases h
theorem oR {b:aH} {e:bs} {t:az} {xs:List t.den} {fz:Bool} (h:b.mask=.arr e t xs fz): ∃kJ,b=.arr e t xs kJ/\fz=false:=by cases b<;>simp[aH.mask]at h;obtain ⟨rfl,rfl,W,aC⟩:=h;obtain rfl:=eq_of_heq W;exact ⟨_,rfl,aC⟩
theorem akr {b:aH} {T:bs} {t:az} {r:K} (h:b.mask=.box T t r):b=.box T t r:=by cases b<;>simp[aH.mask]at h;obtain ⟨rfl,rfl,rfl⟩:=h;rfl
theorem qi {w:bm} {b k:Nat} {cur:Array aA} {e:bs} {c7:Nat×Nat} (h:w.heap[b]? =some (.cells cur e c7)):w.cell? ⟨b,k,none⟩=cur[k]? :=by simp[World.cell?,h]
theorem U1 [Env] {φ:bP} {ι:Nat->aA} {w:bm} {o:Nat} {e:bs} {t:az} {xs:List t.den} {fz:Bool} (h:jE φ ι w o (.arr e t xs fz))
  (kv: ∀b k,dN (ι o)=some b->k<xs.length*t.size->φ b (sD (ι o)+k)) {A di:Option Addr} {n c aR E:Nat} (a8:ι o=.slice A n c) (q:aR<=E) (G:E<=n) (e6:c≠aR->di=A.map (·.add (aR*t.size))):
  bA φ w (.list t) ((xs.take E).drop aR) [.slice di (E-aR) (c-aR)]:=by
 obtain ⟨jC,aE,eF,M,V,aY,bp,bg⟩:=h;rw[a8]at M;injection M with M gA Qk
 subst M gA Qk;refine ⟨_,_,_,rfl,by simp[V];omega,u,?_⟩;by_cases bK:E-aR=0
 ·exact .inl bK
 ·refine .inr ?_;have au:c≠aR:=u;rcases bg with bg |⟨b,pre,cur,c7,rfl,g1,g2,g3,g0,g4,g5,g6,g7⟩
  ·omega
  ·have jV:dN (ι o)=some b:=by rw[a8];simp[dN];omega
   have yl:sD (ι o)=pre.size:=by rw[a8];rfl
   have hle:E*t.size<=n*t.size:=gZ _ G;refine ⟨b,pre.size+aR*t.size,(cur.toList.take (E*t.size)).drop (aR*t.size),by rw[e6 au];simp[hJ],?_,?_⟩
   ·intro i v dO;rw[List.getElem?_drop,List.getElem?_take]at dO;split at dO
    ·rename_i bw;refine ⟨by rw[Nat.add_assoc,<-yl];exact kv b _ jV (by rw[V];omega),?_⟩;rw[qi g1,Array.getElem?_append_right u];rw[show pre.size+aR*t.size+i-pre.size=aR*t.size+i by omega];simpa using dO
    ·cases dO
   ·have:=(g5.take (λx c=>bA.len t x c) E).drop (λx c=>bA.len t x c) aR
    rwa [List.take_take,Nat.min_eq_left hle]at this
mutual
theorem pm [Env] {ι:Nat->aA} {w:bm}: ∀(r:K) (φ:bP) (v:aA) (J:List aH) (n:Nat) (I:eP) (aB:List aH) (aE:Nat),(hr r).go J n=some (I,aB,aE)->ck φ ι w J->r.rel φ ι w v->
  (∀i∈r.ids,(aG J i).live=true)->aE=n/\ ∃ax,ff φ ι w J ax aB/\cJ ax w I.t I.x v
 | .dat t x,φ,v,J,n,I,aB,aE,e,h,ar,ad=>by simp only[hr,HM.go,bM,c0]at e;obtain ⟨rfl,rfl,rfl⟩:=e;exact ⟨rfl,φ,ff.refl h,ar⟩
 | .clip t xs,φ,v,J,n,I,aB,aE,e,h,ar,ad=>by simp only[hr,HM.go,bM,c0]at e;obtain ⟨rfl,rfl,rfl⟩:=e;obtain ⟨A,m,rfl,au⟩:=ar;exact ⟨rfl,φ,ff.refl h,au,rfl⟩
 | .lim t xs c,φ,v,J,n,I,aB,aE,e,h,ar,ad=>by simp only[hr,HM.go,bM,c0]at e;obtain ⟨rfl,rfl,rfl⟩:=e;obtain ⟨A,m,rfl,au⟩:=ar;exact ⟨rfl,φ,ff.refl h,au,rfl⟩
 | .nils _ t,φ,v,J,n,I,aB,aE,e,h,ar,ad=>by simp only[hr,HM.go,bM,c0]at e;obtain ⟨rfl,rfl,rfl⟩:=e;simp only[K.rel]at ar;subst ar;exact ⟨rfl,φ,ff.refl h,⟨_,_,_,rfl,rfl,ca _,.inl rfl⟩,rfl⟩
 | .own t o,φ,v,J,n,I,aB,aE,e,h,ar,ad=>by
  have ab:=gP (ad o (by simp[K.ids]));obtain ⟨ax,g,kv⟩:=Nw h o ab;simp only[hr,HM.go]at e;rw[gO J o _ o (Nat.le_of_lt ab),if_pos rfl]at e;split at e
  ·rename_i ch ae xs fz hm;obtain ⟨kJ,aM,rfl⟩:=oR hm;split at e
   ·rename_i a1 bu;obtain ⟨oy,rfl⟩:=rP bu;injection oy with oy
    subst oy;simp only[HM.go,bM,c0]at e;obtain ⟨rfl,rfl,rfl⟩:=e;obtain ⟨Ct,aV⟩: ∃Ct,aG J o=.arr ch ae xs Ct:=by cases dC:aG J o<;>rw[dC]at aM<;>simp[aH.freeze]at aM;obtain ⟨rfl,rfl,W,aC⟩:=aM;obtain rfl:=eq_of_heq W;exact ⟨_,rfl⟩
    have iG:=g.rel.obj o;rw[gO J o _ o (Nat.le_of_lt ab),if_pos rfl,aM]at iG;obtain ⟨rfl,A,m,c,a8⟩:=ar;have au:=U1 iG (λb k L ag=>kv _ _ _ _ aV b k L ag) (di:=A) a8 (Nat.zero_le m) (ca m) (λ_=>by cases A<;>simp[Addr.add]);obtain ⟨di,SO,eF,M,V,_⟩:=iG;rw[a8]at M;injection M with M gA Qk
    subst M gA Qk;refine ⟨rfl,ax,g,?_,by rw[a8];rfl⟩;rw[a8];show bA ax w (.list ae) xs [.slice A m c];simpa [<-V] using au
   ·simp[HM.go]at e
  ·simp[HM.go]at e
 | .view t o aR E,φ,v,J,n,I,aB,aE,e,h,ar,ad=>by
  have ab:=gP (ad o (by simp[K.ids]));obtain ⟨ax,g,kv⟩:=Nw h o ab;simp only[hr,HM.go]at e;rw[gO J o _ o (Nat.le_of_lt ab),if_pos rfl]at e;split at e
  ·rename_i ch ae xs fz hm;obtain ⟨kJ,aM,rfl⟩:=oR hm;split at e
   ·rename_i a1 bu;obtain ⟨oy,rfl⟩:=rP bu;injection oy with oy
    subst oy;simp only[HM.go,bM,c0]at e;obtain ⟨rfl,rfl,rfl⟩:=e;obtain ⟨Ct,aV⟩: ∃Ct,aG J o=.arr ch ae xs Ct:=by cases dC:aG J o<;>rw[dC]at aM<;>simp[aH.freeze]at aM;obtain ⟨rfl,rfl,W,aC⟩:=aM;obtain rfl:=eq_of_heq W;exact ⟨_,rfl⟩
    have iG:=g.rel.obj o;rw[gO J o _ o (Nat.le_of_lt ab),if_pos rfl,aM]at iG;obtain ⟨A,m,c,di,a8,q,G,W,rfl,e6,_⟩:=ar;exact ⟨rfl,ax,g,U1 iG (λb k L ag=>kv _ _ _ _ aV b k L ag) a8 q G e6,rfl⟩
   ·simp[HM.go]at e
  ·simp[HM.go]at e
 | .agg l,φ,v,J,n,I,aB,aE,e,h,ar,ad=>by obtain ⟨cs,rfl,ar⟩:=ar;obtain ⟨aN,ax,g,au,aV⟩:=aaN l φ cs.toList J n I aB aE e h ar (λi E=>ad i (by simpa [K.ids] using E));exact ⟨aN,ax,g,au,aV.symm⟩
 | .undef,_,_,_,_,_,_,_,e,_,_,_=>by simp[hr,HM.go]at e
 | .nilv,_,_,_,_,_,_,_,e,_,_,_=>by simp[hr,HM.go]at e
 | .ptr ..,_,_,_,_,_,_,_,e,_,_,_=>by simp[hr,HM.go]at e
 | .fptr ..,_,_,_,_,_,_,_,e,_,_,_=>by simp[hr,HM.go]at e
 | .tup _,_,_,_,_,_,_,_,e,_,_,_=>by simp[hr,HM.go]at e
 | .fn ..,_,_,_,_,_,_,_,e,_,_,_=>by simp[hr,HM.go]at e
 | .iface ..,_,_,_,_,_,_,_,e,_,_,_=>by simp[hr,HM.go]at e
 | .nilI,_,_,_,_,_,_,_,e,_,_,_=>by simp[hr,HM.go]at e
 | .nilF,_,_,_,_,_,_,_,e,_,_,_=>by simp[hr,HM.go]at e
 | .nilP,_,_,_,_,_,_,_,e,_,_,_=>by simp[hr,HM.go]at e
 | .atl _,_,_,_,_,_,_,_,e,_,_,_=>by simp[hr,HM.go]at e
theorem aaN [Env] {ι:Nat->aA} {w:bm}: ∀(l:List K) (φ:bP) (cs:List aA) (J:List aH) (n:Nat) (I:eP) (aB:List aH) (aE:Nat),(uV l).go J n=some (I,aB,aE)->ck φ ι w J->K.relL φ ι w l cs->
  (∀i∈K.idsL l,(aG J i).live=true)->aE=n/\ ∃ax,ff φ ι w J ax aB/\bA ax w I.t I.x cs/\I.t.isAgg=true
 |[],φ,cs,J,n,I,aB,aE,e,h,ar,ad=>by simp only[uV,HM.go,bM,c0]at e;obtain ⟨rfl,rfl,rfl⟩:=e;exact ⟨rfl,φ,ff.refl h,ar,rfl⟩
 |r::l,φ,cs,J,n,I,aB,aE,e,h,ar,ad=>by
  obtain ⟨v,ba,rfl,q,G⟩:=ar;simp only[uV]at e;obtain ⟨d1,H1,cG,M,e⟩:=HM.go_bind_some e;obtain ⟨d2,fg,dq,V,e⟩:=HM.go_bind_some e;simp only[HM.go,bM,c0]at e;obtain ⟨rfl,rfl,rfl⟩:=e;obtain ⟨rfl,dF,g1,a8⟩:=pm r φ v J n d1 H1 cG M h q (λi E=>ad i (by simp[K.idsL,E]));obtain ⟨rfl,eh,g2,au,_⟩:=aaN l dF ba H1 cG d2 fg dq V g1.rel
   (K.relL_mono g1.step.phi g1.step.cells l ba (λ_ _=>rfl) G) (λi E=>by rw[g1.live];exact ad i (by simp[K.idsL,E]))
  exact ⟨rfl,eh,g1.trans g2,⟨_,_,rfl,bA.mono g2.step.phi g2.step.cells _ _ _ a8.1,au⟩,rfl⟩
end
theorem Gm [Env] {ι:Nat->aA} {w:bm} {t:az} {r:K} {φ:bP} {v:aA} {J:List aH} {n:Nat} {x:t.den} {aB:List aH} {aE:Nat} (e:(xa t r).go J n=some (x,aB,aE)) (h:ck φ ι w J) (ar:r.rel φ ι w v)
  (ad: ∀i∈r.ids,(aG J i).live=true):aE=n/\ ∃ax,ff φ ι w J ax aB/\cJ ax w t x v:=by
 unfold xa at e;obtain ⟨I,H1,cG,M,e⟩:=HM.go_bind_some e;rw[HM.go_ofOpt]at e;obtain ⟨y,bu,e⟩:=ib.1 e;simp only[c0]at e;obtain ⟨rfl,rfl,rfl⟩:=e;obtain ⟨aN,ax,g,a8⟩:=pm r φ v J n I H1 cG M h ar ad;obtain ⟨I,x⟩:=I;obtain ⟨oy,rfl⟩:=rP bu;simp only at oy;subst oy;exact ⟨aN,ax,g,a8⟩
open Go.RowKit
def sP (P:cA) (e:bs) (t:az) (bytes:Nat):Prop:=
 ∃dQ z,P.info? e=some dQ/\dQ.size=t.size/\dQ.bytes=bytes/\0<bytes/\dQ.zero=some z/\0<t.size/\z.cells.toList.length=t.size/\ ∀φ w,bA φ w t t.zero z.cells.toList
def nY (P:cA) (cx:cm) (ty:az) (f:Nat) (U:bs) (off:Nat):Prop:=
 off=ty.offs f/\ ∃j,cx.ti U=some j/\ty.nth f=some j.ty/\0<j.ty.size
def la (P:cA) (cx:cm) (T:bs) (i:gq):Prop:=match i.ty with
 | .bool=>P.underlying T=some .bool
 | .int k=>P.underlying T=some (.int k)
 | .str=>P.underlying T=some .string
 | .list t=>P.underlying T=some (.slice i.elem)/\sP P i.elem t i.bytes/\ ∃ae,cx.ti i.elem=some ae/\ae.ty=t
 | .opq=> ∃I,P.underlying T=some I/\ ∀(x:Nat) (e:bs) dz,I≠ .array x e/\I≠ .struct dz
 |ty=>(i.arr=false/\ ∃dz,P.underlying T=some (.struct dz)/\dz.size=i.fields.length/\ ∀(f:Nat) U,i.fields[f]? =some U-> ∃fd,dz[f]? =some fd/\fd.type=U/\nY P cx ty f U fd.offset)\/
   (i.arr=true/\ ∃n e dQ,P.underlying T=some (.array n e)/\i.fields.length=n/\P.info? e=some dQ/\ ∀(f:Nat) U,i.fields[f]? =some U->U=e/\nY P cx ty f U (f*dQ.size))
def aet (P:cA) (T:bs) (t:az):Prop:= ∀(φ:bP) (w:bm) (x y:t.den) (cN hf:aA) (n5 pH:Operand),cJ φ w t x cN->cJ φ w t y hf->
 (do eqGuard .eql T n5 pH cN hf;binOp .eql T cN hf:Sem aA).run P w=.ok (.bool (t.eqb x y)) w/\
 (do eqGuard .neq T n5 pH cN hf;binOp .neq T cN hf:Sem aA).run P w=.ok (.bool (!(t.eqb x y))) w
def SM (P:cA) (T:bs) (nm:String) (f:Nat):Prop:= ∀(v:aA) (w:bm),(method (P.types.size+Made.depth) T v nm).run P w=.ok (f,v) w
structure al0 (P:cA) (cx:cm) (T:bs) (i:gq):Prop where
 info: ∃info,P.info? T=some info/\info.size=i.ty.size/\ ∀r,cx.zeroRV 20 T=some r-> ∃z,info.zero=some z/\z.cells.size=i.ty.size/\kb z=i.ty.isAgg/\r.fits i.ty=true/\r.ids=[]/\ ∀φ ι w,r.rel φ ι w z
 desc:la P cx T i
 cmp:i.cmp=true->i.ty.cmp=true->i.ty.isAgg=true->aet P T i.ty
 iface:i.nil=true-> ∃ms,P.underlying T=some (.interface ms)
 meth: ∀nm f,vZ i.meths nm=some f->SM P T nm f
def cT (P:cA) (cx:cm):Prop:= ∀T i,cx.ti T=some i->al0 P cx T i
theorem hP {cx:cm} {T:bs} {t:az} (h:cx.isTy T t=true): ∃i,cx.ti T=some i/\i.ty=t:=by
 unfold cm.isTy at h;split at h
 ·rename_i i E;exact ⟨i,E,by simpa using h⟩
 ·cases h
theorem GR {cx:cm} {T:bs} {t:Option az} (h:cx.isTyO T t=true): ∃i,cx.ti T=some i/\t=some i.ty:=by
 unfold cm.isTyO at h;split at h
 ·rename_i t;obtain ⟨i,q,G⟩:=hP h;exact ⟨i,q,by rw[G]⟩
 ·cases h
section
variable {P:cA} {cx:cm} {T:bs} {i:gq} {w:bm}
theorem EO (tab:cT P cx) (h:cx.ti T=some i):(sizeOf T).run P w=.ok i.ty.size w:=by obtain ⟨info,q,G,_⟩:=(tab T i h).info;simp[sizeOf,typeInfo,q,G]
theorem Ox (tab:cT P cx) (h:cx.ti T=some i):(isAgg T).run P w=.ok i.ty.isAgg w:=by
 have ao:=(tab T i h).desc;unfold la at ao;unfold isAgg;split at ao
 ·rename_i e;simp[run_underlying ao,e,az.isAgg]
 ·rename_i e;simp[run_underlying ao,e,az.isAgg]
 ·rename_i e;simp[run_underlying ao,e,az.isAgg]
 ·rename_i e;simp[run_underlying ao.1,e,az.isAgg]
 ·rename_i e;obtain ⟨I,ao,aN⟩:=ao;rw[e];cases I with
  |array x y=>exact absurd rfl (aN x y #[]).1
  |struct dz=>exact absurd rfl (aN 0 0 dz).2
  |_=>simp[run_underlying ao,az.isAgg]
 ·rename_i ty q G W aC bd;have:i.ty.isAgg=true:=by
   cases eI:i.ty with
   |bool=>exact absurd eI q
   |int k=>exact absurd eI (G k)
   |str=>exact absurd eI W
   |list t=>exact absurd eI (aC t)
   |opq=>exact absurd eI bd
   |unit=>rfl
   |pair a b=>rfl
  rw[this];rcases ao with ⟨_,dz,ao,_⟩|⟨_,n,e,dQ,ao,_⟩<;>simp[run_underlying ao]
end
theorem GU {t ae:az} {i:Nat} (h:t.nth i=some ae):t.offs i+ae.size<=t.size:=by
 induction t generalizing i with
 |pair a b Dj vJ=>
  cases i with
  |zero=>simp[az.nth]at h;subst h;simp[az.offs,az.size]
  |succ i=>have:=vJ (i:=i) (by simpa [az.nth] using h);simp only[az.offs,az.size];omega
 |_=>cases i<;>simp[az.nth]at h
theorem si {t ae:az} {p:List Nat} (h:t.at_ p=some ae):t.offAt p+ae.size<=t.size:=by
 induction p generalizing t with
 |nil=>simp[az.at_]at h;subst h;simp[az.offAt]
 |cons i p aO=>
  simp only[az.at_]at h;split at h
  ·rename_i e he;have q:=GU he;have G:=aO h;simp only[az.offAt,he];omega
  ·cases h
theorem Gr {φ:bP} {w:bm} {t:az} {x:t.den} {cs:List aA} {i:Nat} {I:eP} (h:bA φ w t x cs) (aT:t.proj x i=some I):t.nth i=some I.t/\bA φ w I.t I.x ((cs.drop (t.offs i)).take I.t.size):=by
 induction t generalizing i cs with
 |pair a b Dj vJ=>
  obtain ⟨bj,ba,rfl,q,G⟩:=h;cases i with
  |zero=>
   simp only[az.proj,bM]at aT;subst aT;refine ⟨rfl,?_⟩;have:=bA.len a _ _ q;simp only[az.offs,List.drop_zero];rw[<-this,List.take_left];exact q
  |succ i=>
   simp only[az.proj]at aT;obtain ⟨g1,g2⟩:=vJ G aT;refine ⟨g1,?_⟩;simp only[az.offs];rw[<-bA.len a _ _ q,<-List.drop_drop,List.drop_left];exact g2
 |_=>cases i<;>simp[az.proj]at aT
theorem ajg {φ:bP} {w:bm} {p:List Nat}: ∀{I e:eP} {cs:List aA},bA φ w I.t I.x cs->I.at_ p=some e->I.t.at_ p=some e.t/\bA φ w e.t e.x ((cs.drop (I.t.offAt p)).take e.t.size):=by
 induction p with
 |nil=>
  intro I e cs h aT;simp only[eP.at_,bM]at aT;subst aT;refine ⟨rfl,?_⟩;simp only[az.offAt,List.drop_zero];rw[<-bA.len _ _ _ h,eu];exact h
 |cons i p aO=>
  intro I e cs h aT;simp only[eP.at_]at aT;split at aT
  ·rename_i f aM;obtain ⟨g1,g2⟩:=Gr h aM;obtain ⟨bf,a6⟩:=aO g2 aT;refine ⟨by simp only[az.at_,g1,bf],?_⟩;have hle:=si bf;simp only[az.offAt,g1];rw[List.drop_take,List.take_take,List.drop_drop,Nat.min_eq_left u]at a6;exact a6
  ·cases aT
mutual
theorem K.rel_fits {φ:bP} {ι:Nat->aA} {w:bm}: ∀(r:K) (t:az) (v:aA),r.rel φ ι w v->r.fits t=true->v.cells.size=t.size/\kb v=t.isAgg
 | .dat ae x,t,v,h,aM=>by
  have e:ae=t:=by simpa [K.fits] using aM
  subst e;exact ⟨by rw[<-bA.len _ _ _ h.1];simp,h.2⟩
 | .nils _ ae,t,v,h,aM=>by
  have e:az.list ae=t:=by simpa [K.fits] using aM
  subst e;simp only[K.rel]at h;subst h;exact ⟨rfl,rfl⟩
 | .own ae o,t,v,h,aM=>by
  have e:az.list ae=t:=by simpa [K.fits] using aM
  subst e;obtain ⟨_,A,n,c,rfl⟩:=h;exact ⟨rfl,rfl⟩
 | .agg l,t,v,h,aM=>by obtain ⟨cs,rfl,h⟩:=h;obtain ⟨q,G⟩:=K.relL_fits l t cs.toList h (by simpa [K.fits] using aM);exact ⟨by simpa [Value.cells] using q,by rw[G];rfl⟩
 | .ptr o ae i p,t,v,h,aM=>by
  have e:t=.opq:=by simpa [K.fits] using aM
  subst e;obtain ⟨b,_,_,rfl,_⟩:=h;exact ⟨rfl,rfl⟩
 | .fptr ae x,t,v,h,aM=>by
  have e:t=.opq:=by simpa [K.fits] using aM
  subst e;obtain ⟨b,o,cs,rfl,_⟩:=h;exact ⟨rfl,rfl⟩
 | .fn f a b,t,v,h,aM=>by
  have e:t=.opq:=by simpa [K.fits] using aM
  subst e;obtain ⟨x,y,rfl,_⟩:=h;exact ⟨rfl,rfl⟩
 | .iface T r,t,v,h,aM=>by
  have e:t=.opq:=by simpa [K.fits] using aM
  subst e;obtain ⟨ae,rfl,_⟩:=h;exact ⟨rfl,rfl⟩
 | .nilI,t,v,h,aM=>by
  have e:t=.opq:=by simpa [K.fits] using aM
  subst e;simp only[K.rel]at h;subst h;exact ⟨rfl,rfl⟩
 | .nilF,t,v,h,aM=>by
  have e:t=.opq:=by simpa [K.fits] using aM
  subst e;simp only[K.rel]at h;subst h;exact ⟨rfl,rfl⟩
 | .nilP,t,v,h,aM=>by
  have e:t=.opq:=by simpa [K.fits] using aM
  subst e;simp only[K.rel]at h;subst h;exact ⟨rfl,rfl⟩
 | .undef,_,_,_,aM=>by simp[K.fits]at aM
 | .atl _,_,_,_,aM=>by simp[K.fits]at aM
 | .lim ..,_,_,_,aM=>by simp[K.fits]at aM
 | .yld Y o,t,v,h,aM=>by
  have e:t=.opq:=by simpa [K.fits] using aM
  subst e;obtain ⟨_,l,rfl⟩:=h;exact ⟨rfl,rfl⟩
 | .gp ..,_,_,_,aM=>by simp[K.fits]at aM
 | .dfr ..,_,_,_,aM=>by simp[K.fits]at aM
 | .clip ..,_,_,_,aM=>by simp[K.fits]at aM
 | .nilv,_,_,_,aM=>by simp[K.fits]at aM
 | .view ..,_,_,_,aM=>by simp[K.fits]at aM
 | .tup _,_,_,_,aM=>by simp[K.fits]at aM
theorem K.relL_fits {φ:bP} {ι:Nat->aA} {w:bm}: ∀(l:List K) (t:az) (cs:List aA),K.relL φ ι w l cs->K.fitsL l t=true->cs.length=t.size/\t.isAgg=true
 |[],t,cs,h,aM=>by
  have e:t=.unit:=by simpa [K.fitsL] using aM
  subst e;simp only[K.relL]at h;subst h;exact ⟨rfl,rfl⟩
 |r::l,t,cs,⟨v,ba,e,q,G⟩,aM=>by
  subst e;cases t with
  |pair a b=>
   simp only[K.fitsL,bQ]at aM;have g1:=(K.rel_fits r a v q aM.1).1;have g2:=(K.relL_fits l b ba G aM.2).1;exact ⟨by simp[az.size,g1,g2],rfl⟩
  |_=>simp[K.fitsL]at aM
end
open Go.RowKit
structure iW (J:List aH) (n:Nat) (aB:List aH) (aE:Nat):Prop where
 le:n<=aE
 len:J.length<=aB.length
 top:n<=J.length->aE<=aB.length
 same: ∀i,i<n\/aE<=i->(aG aB i).live=(aG J i).live
 seq:n=J.length->aB.length=aE
theorem iW.refl (J:List aH) (n:Nat):iW J n J n:=⟨ca _,ca _,id,λ_ _=>rfl,λh=>h.symm⟩
theorem iW.trans {J aB mM:List aH} {n aE SO:Nat} (a:iW J n aB aE) (b:iW aB aE mM SO):iW J n mM SO:=
 ⟨Nat.le_trans a.le b.le,Nat.le_trans a.len b.len,λh=>b.top (a.top h),λi E=>(b.same i (E.imp (λh=>Nat.lt_of_lt_of_le h a.le) id)).trans (a.same i (E.imp id (λh=>Nat.le_trans b.le h))),λh=>b.seq (a.seq h).symm⟩
theorem ff.nx [Env] {φ:bP} {ι:Nat->aA} {w:bm} {J:List aH} {ax:bP} {aB:List aH} (g:ff φ ι w J ax aB) (n:Nat):iW J n aB n:=
 ⟨ca _,by rw[g.len];exact ca _,λh=>by rw[g.len];exact h,λi _=>g.live i,λh=>by rw[g.len,h]⟩
def cL [Env] (φ:bP) (ι:Nat->aA) (w:bm) (J:List aH) (n:Nat) (r:K) (aB:List aH) (aE:Nat) (run:Result aA):Prop:=
 ∃v aq ax aJ,run=.ok v aq/\ck ax aJ aq aB/\Step φ ι w J ax aJ aq aB/\eo ι J aJ aB/\iW J n aB aE/\r.rel ax aJ aq v/\ ∀i∈r.ids,(aG aB i).live=true
theorem cL.pure [Env] {φ:bP} {ι:Nat->aA} {w:bm} {J:List aH} {n:Nat} {r:K} {v:aA} (h:ck φ ι w J) (ar:r.rel φ ι w v) (ad: ∀i∈r.ids,(aG J i).live=true) {run:Result aA} (e:run=.ok v w):cL φ ι w J n r J n run:=
 ⟨v,w,φ,ι,e,h,Step.refl _ _ _ _,eo.refl _ _,iW.refl _ _,ar,ad⟩
theorem cL.ghost [Env] {φ:bP} {ι:Nat->aA} {w:bm} {J:List aH} {n:Nat} {r:K} {v:aA} {ax:bP} {aB:List aH} (g:ff φ ι w J ax aB) (ar:r.rel ax ι w v) (ad: ∀i∈r.ids,(aG aB i).live=true) {run:Result aA} (e:run=.ok v w):cL φ ι w J n r aB n run:=
 ⟨v,w,ax,ι,e,g.rel,g.step,g.keep,g.nx n,ar,ad⟩
def Plain (r:K) (v:aA):Prop:=r.ids=[]/\ ∀φ ι w,r.rel φ ι w v
theorem Plain.int (k:IntKind) (a:Int):Plain (.dat (.int k) a) (.int k a):=⟨rfl,λ_ _ _=>cJ.int.2 rfl⟩
theorem Plain.bool (a:Bool):Plain (.dat .bool a) (.bool a):=⟨rfl,λ_ _ _=>cJ.bool.2 rfl⟩
theorem Plain.str (a:List UInt8):Plain (.dat .str a) (.string ⟨⟨a⟩⟩):=⟨rfl,λ_ _ _=>cJ.str.2 rfl⟩
section
variable {P:cA} {J:List aH} {n:Nat} {r:K} {aB:List aH} {aE:Nat}
theorem abV {op:BinOp} {k:IntKind} {a b:Int} (e:(BE op k a b).go J n=some (r,aB,aE)) (q:op≠ .shl) (G:op≠ .shr):
  aB=J/\aE=n/\ ∃v,Plain r v/\ ∀(w:bm) (T:bs) (x y:Operand),(do eqGuard op T x y (.int k a) (.int k b);binOp op T (.int k a) (.int k b):Sem aA).run P w=.ok v w:=by
 cases op<;>simp only[BE,HM.go,bM,c0,reduceCtorEq]at e
 case add=>obtain ⟨rfl,rfl,rfl⟩:=e;exact ⟨rfl,rfl,_,Plain.int _ _,λw T x y=>by simp[eqGuard,binOp,Op.intArith]⟩
 case sub=>obtain ⟨rfl,rfl,rfl⟩:=e;exact ⟨rfl,rfl,_,Plain.int _ _,λw T x y=>by simp[eqGuard,binOp,Op.intArith]⟩
 case mul=>obtain ⟨rfl,rfl,rfl⟩:=e;exact ⟨rfl,rfl,_,Plain.int _ _,λw T x y=>by simp[eqGuard,binOp,Op.intArith]⟩
 case quo=>
  by_cases L:b=0
  ·simp[L]at e
  ·simp only[L,decide_false,av,bM,c0]at e;obtain ⟨rfl,rfl,rfl⟩:=e;exact ⟨rfl,rfl,_,Plain.int _ _,λw T x y=>by simp[eqGuard,binOp,Op.intDiv,L]⟩
 case rem=>
  by_cases L:b=0
  ·simp[L]at e
  ·simp only[L,decide_false,av,bM,c0]at e;obtain ⟨rfl,rfl,rfl⟩:=e;exact ⟨rfl,rfl,_,Plain.int _ _,λw T x y=>by simp[eqGuard,binOp,Op.intDiv,L]⟩
 case and=>obtain ⟨rfl,rfl,rfl⟩:=e;exact ⟨rfl,rfl,_,Plain.int _ _,λw T x y=>by simp[eqGuard,binOp,Op.intBits]⟩
 case or=>obtain ⟨rfl,rfl,rfl⟩:=e;exact ⟨rfl,rfl,_,Plain.int _ _,λw T x y=>by simp[eqGuard,binOp,Op.intBits]⟩
 case xor=>obtain ⟨rfl,rfl,rfl⟩:=e;exact ⟨rfl,rfl,_,Plain.int _ _,λw T x y=>by simp[eqGuard,binOp,Op.intBits]⟩
 case andNot=>obtain ⟨rfl,rfl,rfl⟩:=e;exact ⟨rfl,rfl,_,Plain.int _ _,λw T x y=>by simp[eqGuard,binOp,Op.intBits]⟩
 case eql=>obtain ⟨rfl,rfl,rfl⟩:=e;exact ⟨rfl,rfl,_,Plain.bool _,λw T x y=>by simp[eqGuard,binOp,Op.intCmp];rfl⟩
 case neq=>obtain ⟨rfl,rfl,rfl⟩:=e;exact ⟨rfl,rfl,_,Plain.bool _,λw T x y=>by simp[eqGuard,binOp,Op.intCmp,bne];rfl⟩
 case lss=>obtain ⟨rfl,rfl,rfl⟩:=e;exact ⟨rfl,rfl,_,Plain.bool _,λw T x y=>by simp[eqGuard,binOp,Op.intCmp]⟩
 case leq=>obtain ⟨rfl,rfl,rfl⟩:=e;exact ⟨rfl,rfl,_,Plain.bool _,λw T x y=>by simp[eqGuard,binOp,Op.intCmp]⟩
 case gtr=>obtain ⟨rfl,rfl,rfl⟩:=e;exact ⟨rfl,rfl,_,Plain.bool _,λw T x y=>by simp[eqGuard,binOp,Op.intCmp]⟩
 case geq=>obtain ⟨rfl,rfl,rfl⟩:=e;exact ⟨rfl,rfl,_,Plain.bool _,λw T x y=>by simp[eqGuard,binOp,Op.intCmp]⟩
theorem abl {op:BinOp} {k eD:IntKind} {a b:Int} (e:(Hi op k a b).go J n=some (r,aB,aE)):
  aB=J/\aE=n/\ ∃v,Plain r v/\ ∀(w:bm) (T:bs) (x y:Operand),(do eqGuard op T x y (.int k a) (.int eD b);binOp op T (.int k a) (.int eD b):Sem aA).run P w=.ok v w:=by
 cases op<;>simp only[Hi,HM.go,reduceCtorEq]at e
 case shl=>
  by_cases L:b<0
  ·simp[L]at e
  ·simp only[L,decide_false,av,bM,c0]at e;obtain ⟨rfl,rfl,rfl⟩:=e;exact ⟨rfl,rfl,_,Plain.int _ _,λw T x y=>by simp[eqGuard,binOp,Op.shift,L]⟩
 case shr=>
  by_cases L:b<0
  ·simp[L]at e
  ·simp only[L,decide_false,av,bM,c0]at e;obtain ⟨rfl,rfl,rfl⟩:=e;exact ⟨rfl,rfl,_,Plain.int _ _,λw T x y=>by simp[eqGuard,binOp,Op.shift,L]⟩
theorem qq (x:List UInt8):(⟨⟨x⟩⟩:ByteArray).toList=x:=ByteArray.toList_eq _
theorem uH (a b:List UInt8):(a==b)=decide (a=b):=by rw[Bool.eq_iff_iff];simp
theorem asZ {op:BinOp} {a b:List UInt8} (e:(Qd op a b).go J n=some (r,aB,aE)):
  aB=J/\aE=n/\ ∃v,Plain r v/\ ∀(w:bm) (T:bs) (x y:Operand),(do eqGuard op T x y (.string ⟨⟨a⟩⟩) (.string ⟨⟨b⟩⟩);binOp op T (.string ⟨⟨a⟩⟩) (.string ⟨⟨b⟩⟩):Sem aA).run P w=.ok v w:=by
 cases op<;>simp only[Qd,HM.chk,HM.go,bM,c0,reduceCtorEq]at e
 case add=>
  by_cases L:a.length+b.length<=bC
  ·simp only[L,cf,aj,bM,c0]at e;obtain ⟨rfl,rfl,rfl⟩:=e;refine ⟨rfl,rfl,.string ⟨⟨a++b⟩⟩,Plain.str _,λw T x y=> ?_⟩;have q:(⟨⟨a⟩⟩:ByteArray).size=a.length:=rfl;have G:(⟨⟨b⟩⟩:ByteArray).size=b.length:=rfl;have hm:IntKind.i64.max=9223372036854775807:=rfl;unfold bC at L;have aC:(⟨⟨a⟩⟩:ByteArray)++(⟨⟨b⟩⟩:ByteArray)=⟨⟨a++b⟩⟩:=by apply ByteArray.ext;simp[ByteArray.data_append]
   simp only[eqGuard,binOp,Op.stringOp,q,G,aC];simp;omega
  ·simp[L]at e
 case eql=>obtain ⟨rfl,rfl,rfl⟩:=e;exact ⟨rfl,rfl,_,Plain.bool _,λw T x y=>by simp[eqGuard,binOp,Op.stringOp,qq,uH]⟩
 case neq=>obtain ⟨rfl,rfl,rfl⟩:=e;exact ⟨rfl,rfl,_,Plain.bool _,λw T x y=>by simp[eqGuard,binOp,Op.stringOp,qq,uH]⟩
 case lss=>obtain ⟨rfl,rfl,rfl⟩:=e;exact ⟨rfl,rfl,_,Plain.bool _,λw T x y=>by simp[eqGuard,binOp,Op.stringOp,qq]⟩
 case leq=>obtain ⟨rfl,rfl,rfl⟩:=e;exact ⟨rfl,rfl,_,Plain.bool _,λw T x y=>by simp[eqGuard,binOp,Op.stringOp,qq,uH]⟩
 case gtr=>obtain ⟨rfl,rfl,rfl⟩:=e;exact ⟨rfl,rfl,_,Plain.bool _,λw T x y=>by simp[eqGuard,binOp,Op.stringOp,qq,uH]⟩
 case geq=>obtain ⟨rfl,rfl,rfl⟩:=e;exact ⟨rfl,rfl,_,Plain.bool _,λw T x y=>by simp[eqGuard,binOp,Op.stringOp,qq]⟩
end
open Go.RowKit
section
variable {P:cA} {cx:cm} {φ:bP} {ι:Nat->aA} {w:bm} {J:List aH} {n:Nat} {r:K} {aB:List aH} {aE:Nat}
theorem cL.plain [Env] {v:aA} (h:ck φ ι w J) (aT:Plain r v) {run:Result aA} (e:run=.ok v w):cL φ ι w J n r J n run:=
 cL.pure h (aT.2 φ ι w) (by rw[aT.1];simp) e
theorem W0 {T:bs} (ao:P.underlying T=some .bool) (I:Nat) (a b:Bool) (w:bm):(Op.equalIn (I+1) T (.bool a) (.bool b)).run P w=.ok (a==b) w:=by simp[Op.equalIn,run_underlying ao]
theorem Yt {T:bs} (ao:P.underlying T=some .bool) (a b:Bool) (w:bm):(Op.equal T (.bool a) (.bool b)).run P w=.ok (a==b) w:=W0 ao 9999 a b w
theorem ara [Env] (tab:cT P cx) {op:BinOp} {T:bs} {x y:K} (e:(P0 cx op T x y).go J n=some (r,aB,aE)) (h:ck φ ι w J) {cN hf:aA} (an:x.rel φ ι w cN) (bu:y.rel φ ι w hf)
  (fH: ∀i∈x.ids,(aG J i).live=true) (tl: ∀i∈y.ids,(aG J i).live=true) (n5 pH:Operand):
  cL φ ι w J n r aB aE ((do eqGuard op T n5 pH cN hf;binOp op T cN hf:Sem aA).run P w):=by
 unfold P0 at e;split at e
 ·rename_i k a eD b;obtain rfl:=cJ.int.1 an;obtain rfl:=cJ.int.1 bu;split at e
  ·obtain ⟨rfl,rfl,v,aT,ar⟩:=abl (P:=P) (eD:=eD) e;exact cL.plain h aT (ar w T n5 pH)
  ·obtain ⟨rfl,rfl,v,aT,ar⟩:=abl (P:=P) (eD:=eD) e;exact cL.plain h aT (ar w T n5 pH)
  ·rename_i q G;by_cases ag:k=eD
   ·subst ag;simp only[cf,aj]at e;obtain ⟨rfl,rfl,v,aT,ar⟩:=abV (P:=P) e q G;exact cL.plain h aT (ar w T n5 pH)
   ·simp[ag,HM.go]at e
 ·rename_i a b;obtain rfl:=cJ.str.1 an;obtain rfl:=cJ.str.1 bu;obtain ⟨rfl,rfl,v,aT,ar⟩:=asZ (P:=P) e;exact cL.plain h aT (ar w T n5 pH)
 ·rename_i k a m;obtain rfl:=cJ.int.1 an;obtain ⟨c,rfl,au⟩: ∃c:Nat,hf=.int .i64 (c:Int)/\m<=c:=bu;split at e
  ·by_cases ag:k=.i64
   ·subst ag;simp only[cf,aj]at e;obtain ⟨L,e⟩:=HM.go_chk e;simp only[HM.go,bM,c0]at e;obtain ⟨rfl,rfl,rfl⟩:=e;have L: @LE.le Int _ a (m:Int):=of_decide_eq_true L;have aM:decide (@GT.gt Int _ a (c:Int))=false:=decide_eq_false u;have V:(BE .gtr .i64 a (c:Int)).go J n=some (.dat .bool false,J,n):=by simp only[BE,HM.go,aM]
    obtain ⟨-,-,v,aT,ar⟩:=abV (P:=P) V aU aU;exact cL.plain h aT (ar w T n5 pH)
   ·simp[ag,HM.go]at e
  ·simp[HM.go]at e
 ·rename_i a b;obtain rfl:=cJ.bool.1 an;obtain rfl:=cJ.bool.1 bu;by_cases b9:cx.isTy T .bool=true
  ·obtain ⟨i,E,eI⟩:=hP b9;have ao:=(tab T i E).desc;unfold la at ao;rw[eI]at ao;simp only at ao;rw[b9]at e;simp only[aj]at e;cases op<;>simp only[HM.go,bM,c0,reduceCtorEq]at e
   case eql=>
    obtain ⟨rfl,rfl,rfl⟩:=e;refine cL.plain h (Plain.bool _) ?_;simp only[eqGuard,binOp,Sem.run_bind,Sem.run_pure,Result.andThen_ok,Yt ao];simp
   case neq=>
    obtain ⟨rfl,rfl,rfl⟩:=e;refine cL.plain h (Plain.bool _) ?_;simp only[eqGuard,binOp,Sem.run_bind,Sem.run_pure,Result.andThen_ok,Yt ao];simp
  ·simp[b9,HM.go]at e
 ·split at e
  ·rename_i i E;by_cases au:(i.cmp&&i.ty.cmp&&i.ty.isAgg)=true
   ·rw[au]at e;simp only[aj]at e;simp only[bQ]at au;obtain ⟨a,H1,cG,M,aY⟩:=HM.go_bind_some e;clear e;obtain ⟨b,fg,dq,V,e⟩:=HM.go_bind_some aY;clear aY;obtain ⟨rfl,dF,g1,v1⟩:=Gm M h an fH;obtain ⟨rfl,eh,g2,v2⟩:=Gm V g1.rel (K.rel_step g1.step g1.keep tl bu) (λi E=>by rw[g1.live];exact tl i E);have v1:=v1.mono g2.step.phi g2.step.cells;have aP:=(tab T i E).cmp au.1.1 au.1.2 au.2 eh w a b cN hf n5 pH v1 v2;cases op<;>simp only[HM.go,bM,c0,reduceCtorEq]at e
    case eql=>
     obtain ⟨rfl,rfl,rfl⟩:=e;exact cL.ghost (g1.trans g2) ((Plain.bool _).2 _ _ _) (by simp[K.ids]) aP.1
    case neq=>
     obtain ⟨rfl,rfl,rfl⟩:=e;exact cL.ghost (g1.trans g2) ((Plain.bool _).2 _ _ _) (by simp[K.ids]) aP.2
   ·simp only[Bool.not_eq_true]at au;rw[au]at e;simp[HM.go]at e
  ·simp[HM.go]at e
theorem asY [Env] {op:UnOp} {x:K} (e:(LG op x).go J n=some (r,aB,aE)) (h:ck φ ι w J) {cN:aA} (an:x.rel φ ι w cN):cL φ ι w J n r aB aE ((Op.unary op cN).run P w):=by
 unfold LG at e;split at e
 ·obtain rfl:=cJ.int.1 an;simp only[HM.go,bM,c0]at e;obtain ⟨rfl,rfl,rfl⟩:=e;exact cL.plain h (Plain.int _ _) (by simp[Op.unary,Op.intArith])
 ·obtain rfl:=cJ.bool.1 an;simp only[HM.go,bM,c0]at e;obtain ⟨rfl,rfl,rfl⟩:=e;exact cL.plain h (Plain.bool _) (by simp[Op.unary])
 ·obtain rfl:=cJ.int.1 an;simp only[HM.go,bM,c0]at e;obtain ⟨rfl,rfl,rfl⟩:=e;exact cL.plain h (Plain.int _ _) (by simp[Op.unary,Op.intBits])
 ·simp[HM.go]at e
def o5 (t:az) (cs:List aA):aA:=if t.isAgg then .agg cs.toArray else cs.headD undef
theorem ajC {v:aA} (h:v.oneCell'=true):kb v=false:=by cases v<;>first |rfl |(simp[Value.oneCell']at h)
theorem cJ.of {t:az} {x:t.den} {cs:List aA} (h:bA φ w t x cs):cJ φ w t x (o5 t cs)/\(o5 t cs).cells.toList=cs:=by
 unfold o5;by_cases aV:t.isAgg=true
 ·rw[if_pos aV];have:(Value.agg cs.toArray).cells.toList=cs:=by simp[Value.cells]
  exact ⟨⟨by rw[this];exact h,by rw[aV];rfl⟩,this⟩
 ·simp only[Bool.not_eq_true]at aV;rw[if_neg (by simp[aV])];have ad:=h.len;have af:t.size=1:=by cases t<;>first |rfl |(simp[az.isAgg]at aV)
  rw[af]at ad;obtain ⟨v,rfl⟩:=List.length_eq_one_iff.1 ad;have a8:=ajC (h.one _ _ _ v aU);have au:v.cells.toList=[v]:=by rw[rK a8]
  simp only[List.headD_cons];exact ⟨⟨by rw[au];exact h,a8.trans aV.symm⟩,au⟩
theorem abA {i:Nat} {t:az} {x d:K} {v:aA} (ar:x.rel φ ι w v) (aM:x.fits t=true) (au:x.comp i=some d):
  ∃ae aQ,t.nth i=some ae/\d.rel φ ι w aQ/\d.fits ae=true/\aQ.cells.toList=(v.cells.toList.drop (t.offs i)).take ae.size/\kb aQ=ae.isAgg/\ ∀j∈d.ids,j∈x.ids:=by
 unfold K.comp at au;split at au
 ·rename_i l i;obtain ⟨cs,rfl,ar⟩:=ar;simp only[K.fits]at aM
  suffices bg: ∀(l:List K) (t:az) (cs:List aA) (i:Nat),K.relL φ ι w l cs->K.fitsL l t=true->l[i]? =some d->
    ∃ae aQ,t.nth i=some ae/\d.rel φ ι w aQ/\d.fits ae=true/\aQ.cells.toList=(cs.drop (t.offs i)).take ae.size/\kb aQ=ae.isAgg/\ ∀j∈d.ids,j∈K.idsL l by
   simpa [K.ids,Value.cells] using bg _ t cs.toList _ ar aM au
  intro l
  induction l with
  |nil=>intro t cs i _ _ h;simp at h
  |cons a l aO=>
   intro t cs i ar aM E;obtain ⟨v,ba,rfl,q,G⟩:=ar;cases t with
   |pair p s=>
    simp only[K.fitsL,bQ]at aM;obtain ⟨g1,g2⟩:=K.rel_fits a p v q aM.1;cases i with
    |zero=>
     simp only[List.getElem?_cons_zero,bM]at E;subst E;refine ⟨p,v,rfl,q,aM.1,?_,g2,λj al=>by simp[K.idsL,al]⟩;simp only[az.offs,List.drop_zero];rw[<-g1,show v.cells.size=v.cells.toList.length by simp,List.take_left]
    |succ i=>
     obtain ⟨ae,aQ,bf,a6,cq,ef,gS,iv⟩:=aO s ba i G aM.2 (by simpa using E);refine ⟨ae,aQ,bf,a6,cq,?_,gS,λj al=>by simp[K.idsL,iv j al]⟩;simp only[az.offs];rw[<-g1,show v.cells.size=v.cells.toList.length by simp,<-List.drop_drop,List.drop_left];exact ef
   |_=>simp[K.fitsL]at aM
 ·rename_i ru ae x;have e:ae=t:=by simpa [K.fits] using aM
  subst e;obtain ⟨I,ao,rfl⟩:=ib.1 au;obtain ⟨g1,g2⟩:=Gr ar.1 ao;obtain ⟨bf,a6⟩:=cJ.of g2;exact ⟨I.t,_,g1,bf,by simp[K.fits],a6,bf.2,by simp[K.ids]⟩
 ·cases au
theorem aok {T:bs} {ms:Array (String×bs)} (hu:P.underlying T=some (.interface ms)) (I:Nat) (U:bs) (ae:aA) (w:bm):(Op.equalIn (I+1) T (.iface U ae) .nilIface).run P w=.ok false w:=by simp[Op.equalIn,run_underlying hu]
theorem aol {T:bs} {ms:Array (String×bs)} (hu:P.underlying T=some (.interface ms)) (I:Nat) (w:bm):(Op.equalIn (I+1) T .nilIface .nilIface).run P w=.ok true w:=by simp[Op.equalIn,run_underlying hu]
theorem at8 {T:bs} {ms:Array (String×bs)} (hu:P.underlying T=some (.interface ms)):(∀U ae,(Op.equal T (.iface U ae) .nilIface).run P w=.ok false w)/\(Op.equal T .nilIface .nilIface).run P w=.ok true w:=
 ⟨λU ae=>aok hu 9999 U ae w,aol hu 9999 w⟩
theorem arN [Env] (tab:cT P cx) {op:BinOp} {T:bs} {x:K} (e:(Qb cx op T x).go J n=some (r,aB,aE)) (h:ck φ ι w J) {cN:aA} (an:x.rel φ ι w cN) (fH: ∀i∈x.ids,(aG J i).live=true) (n5:Operand) (y:aA) (bu:y=.nilIface:=by rfl):
  cL φ ι w J n r aB aE ((do eqGuard op T n5 (.const y) cN .nilIface;binOp op T cN .nilIface:Sem aA).run P w):=by
 subst bu;unfold Qb at e;split at e
 ·rename_i i E;cases aN:i.nil
  ·simp[aN,HM.go]at e
  ·rw[aN,aj]at e;obtain ⟨ms,hu⟩:=(tab T i E).iface aN;obtain ⟨bq,bU⟩:=at8 (w:=w) hu;split at e
   ·simp only[HM.go,bM,c0]at e;obtain ⟨rfl,rfl,rfl⟩:=e;obtain ⟨ae,rfl,-⟩:=an;refine cL.plain h (Plain.bool _) ?_;simp[eqGuard,binOp,bq,bU]
   ·simp only[HM.go,bM,c0]at e;obtain ⟨rfl,rfl,rfl⟩:=e;obtain ⟨ae,rfl,-⟩:=an;refine cL.plain h (Plain.bool _) ?_;simp[eqGuard,binOp,bq,bU]
   ·simp only[HM.go,bM,c0]at e;obtain ⟨rfl,rfl,rfl⟩:=e;obtain rfl:cN=.nilIface:=an;refine cL.plain h (Plain.bool _) ?_;simp[eqGuard,binOp,bq,bU]
   ·simp only[HM.go,bM,c0]at e;obtain ⟨rfl,rfl,rfl⟩:=e;obtain rfl:cN=.nilIface:=an;refine cL.plain h (Plain.bool _) ?_;simp[eqGuard,binOp,bq,bU]
   ·simp[HM.go]at e
 ·simp[HM.go]at e
end
open Go.RowKit
section
variable {P:cA} {cx:cm} {φ:bP} {ι:Nat->aA} {w:bm} {J:List aH} {n:Nat} {r:K} {aB:List aH} {aE:Nat}
theorem h3 {t:az} {x:t.den} {v:aA} (h:cJ φ w t x v):(K.dat t x).rel φ ι w v:=h
theorem Vv {v:aA} {cs:List aA} {t:az} (q:v.cells.toList=cs) (G:kb v=t.isAgg):v=o5 t cs:=by
 unfold o5;by_cases aV:t.isAgg=true
 ·rw[if_pos aV];obtain ⟨c,rfl⟩:=uW (G.trans aV);simp only[Value.cells]at q;rw[<-q]
 ·simp only[Bool.not_eq_true]at aV;rw[if_neg (by simp[aV])];rw[rK (G.trans aV)]at q;subst q;rfl
theorem aq8 {p:List Nat}: ∀{t:az} {x d:K} {v:aA},x.rel φ ι w v->x.fits t=true->x.atPath p=some d->
  ∃ae aQ,t.at_ p=some ae/\d.rel φ ι w aQ/\d.fits ae=true/\aQ.cells.toList=(v.cells.toList.drop (t.offAt p)).take ae.size/\kb aQ=ae.isAgg/\ ∀j∈d.ids,j∈x.ids:=by
 induction p with
 |nil=>
  intro t x d v ar aM aT;simp only[K.atPath,bM]at aT;subst aT;obtain ⟨g1,g2⟩:=K.rel_fits x t v ar aM;refine ⟨t,v,rfl,ar,aM,?_,g2,λj al=>al⟩;simp only[az.offAt,List.drop_zero];rw[<-g1,show v.cells.size=v.cells.toList.length by simp,eu]
 |cons i p aO=>
  intro t x d v ar aM aT;simp only[K.atPath]at aT;split at aT
  ·rename_i y bu;obtain ⟨ae,aQ,bf,a6,cq,ef,gS,iv⟩:=abA ar aM bu;obtain ⟨iU,wG,dH,ds,nQ,rE,awT,Jc⟩:=aO a6 cq aT;refine ⟨iU,wG,by simp only[az.at_,bf,dH],ds,nQ,?_,awT,λj al=>iv j (Jc j al)⟩;have hle:=si dH;rw[rE,ef];simp only[az.offAt,bf];rw[List.drop_take,List.take_take,List.drop_drop,Nat.min_eq_left u]
  ·cases aT
theorem FR (tab:cT P cx) {T:bs} {i:gq} (E:cx.ti T=some i) {b o:Nat} {cs:List aA} (ad:cs.length=i.ty.size) (au: ∀j v,cs[j]? =some v->w.cell? ⟨b,o+j,none⟩=some v):
  (loadVar T ⟨b,o,none⟩).run P w=.ok (o5 i.ty cs) w:=by
 unfold loadVar;simp only[Sem.run_bind,Ox tab E,Result.andThen_ok];unfold o5;by_cases aV:i.ty.isAgg=true
 ·rw[if_pos aV,if_pos aV];have:=run_loadCells_list (P:=P) w ⟨b,o,none⟩ cs (λj v al=>by rw[hJ];exact au j v al);simp only[Sem.run_bind,EO tab E,Result.andThen_ok,<-ad,this,Sem.run_pure]
 ·simp only[Bool.not_eq_true]at aV;have af:i.ty.size=1:=by cases h:i.ty<;>first |rfl |(rw[h]at aV;simp[az.isAgg]at aV)
  rw[af]at ad;obtain ⟨v,rfl⟩:=List.length_eq_one_iff.1 ad;have:=au 0 v rfl;simp only[Nat.add_zero]at this;simp[aV,load,Sem.run,this]
theorem iM {A di:Option Addr} {n aE c eF:Nat} (h:Value.slice A n c=.slice di aE eF):A=di/\n=aE/\c=eF:=by injection h with a b c;exact ⟨a,b,c⟩
theorem ad2 [Env] (h:ck φ ι w J) {o:Nat} {e:bs} {t:az} {xs:List t.den} {fz:Bool} (ab:aG J o=.arr e t xs fz) {i:Nat} {p:List Nat} {v:aA} (ar:(K.ptr o t i p).rel φ ι w v):
  ∃b cur c7 k,v=.pointer (some ⟨b,k+i*t.size+t.offAt p,none⟩)/\w.heap[b]? =some (.cells cur e c7)/\sR c7 cur.size/\(∀v∈cur.toList,v.oneCell'=true)/\i<xs.length/\k+(i+1)*t.size<=cur.size/\dN (ι o)=some b/\
   bA φ w t (xs.getD i t.zero) ((cur.toList.drop (k+i*t.size)).take t.size)/\sD (ι o)=k:=by
 obtain ⟨b,k,L,rfl,aT⟩:=ar;have cu:=h.obj o;rw[ab]at cu;rcases L with ⟨n,c,L,E⟩|⟨L,_⟩
 ·obtain ⟨A,aE,eF,M,V,aY,bp,bg⟩:=cu;rw[L]at M;obtain ⟨rfl,rfl,rfl⟩:=iM M;rcases bg with bg |⟨bZ,pre,cur,c7,cV,g1,g2,g3,g0,g4,g5,g6,g7⟩
  ·omega
  ·injection cV with cV
   injection cV with cV aun
   subst cV aun;have hle:(i+1)*t.size<=n*t.size:=gZ _ E;have RD:n*t.size<=c*t.size:=gZ _ aY;have oG: ∀v∈(pre++cur).toList,v.oneCell'=true:=λv a8=>by
    rw[Array.toList_append]at a8;rcases dn.1 a8 with a8 |a8
    ·exact g0 v a8
    ·exact g4.one v a8
   refine ⟨b,pre++cur,c7,pre.size,rfl,g1,by rw[Array.size_append];exact g3.ok,oG,u,by rw[Array.size_append];omega,by rw[L];simp[dN];omega,?_,by rw[L];rfl⟩;have avg:(pre++cur).toList.drop (pre.size+i*t.size)=cur.toList.drop (i*t.size):=by rw[Array.toList_append,<-List.drop_drop,show pre.size=pre.toList.length by simp,List.drop_left]
   rw[avg];have an:xs[i]? =some (xs.getD i t.zero):=by rw[jQ,hx u];rfl
   have bB:=g5.get (λx c=>bA.len t x c) _ _ i _ an;rw[Nat.add_mul,Nat.one_mul]at hle;rw[List.drop_take,List.take_take,Nat.min_eq_left u]at bB;exact bB
 ·obtain ⟨A,aE,eF,M,_⟩:=cu;rw[L]at M;cases M
theorem ad3 [Env] (h:ck φ ι w J) {o:Nat} {T:bs} {t:az} {x:K} (ab:aG J o=.box T t x) {i:Nat} {p:List Nat} {v:aA} (ar:(K.ptr o t i p).rel φ ι w v):
  ∃b cur c7 ae,v=.pointer (some ⟨b,t.offAt p,none⟩)/\w.heap[b]? =some (.cells cur T c7)/\cur.size=t.size/\sR c7 cur.size/\(∀v∈cur.toList,v.oneCell'=true)/\x.rel φ ι w ae/\ae.cells=cur/\x.fits t=true/\dN (ι o)=some b:=by
 obtain ⟨b,k,L,rfl,aT⟩:=ar;have cu:=h.obj o;rw[ab]at cu;obtain ⟨bZ,cur,c7,ae,M,g1,g2,g3,g4,g5,g6,g7,g8⟩:=cu;rcases L with ⟨n,c,L,E⟩|⟨L,E⟩
 ·rw[L]at M;cases M
 ·rw[L]at M;injection M with M
  injection M with M
  injection M with M
  subst M;exact ⟨b,cur,c7,ae,by rw[E.1,E.2];simp,g1,g2,g3,g4,g5,g6,g7,by rw[L];rfl⟩
theorem aam [Env] (tab:cT P cx) {T:bs} {a:K} (e:(Bm cx T a).go J n=some (r,aB,aE)) (h:ck φ ι w J) {mH:aA} (aV:a.rel φ ι w mH):
  aB=J/\aE=n/\ ∃v,(Instr.loadAt T mH).run P w=.ok v w/\(do loadVar T (<-asAddr mH):Sem aA).run P w=.ok v w/\r.rel φ ι w v/\ ∀i∈r.ids,(aG J i).live=true:=by
 unfold Bm at e;split at e
 ·rename_i b off l;by_cases b9:cx.isTy T .opq=true
  ·obtain ⟨i,E,eI⟩:=hP b9;rw[b9]at e;simp only[aj]at e;cases l with
   |nil=>simp[HM.ofOpt,HM.bind,HM.go]at e
   |cons x l=>
    simp only[List.head?,HM.ofOpt,HM.bind,HM.go,bM,c0]at e;obtain ⟨rfl,rfl,rfl⟩:=e;obtain ⟨rfl,gg⟩:=aV;have au:=(gg 0 (mX x) rfl).2;have eW:=FR (w:=w) tab E (cs:=[mX x]) (b:=b) (o:=off) (by rw[eI];rfl) (λj v al=>by
     cases j with
     |zero=>
      obtain rfl:mX x=v:=by simpa using al
      exact au
     |succ j=>simp at al)
    have a8:o5 i.ty [mX x]=mX x:=by rw[eI];rfl
    rw[a8]at eW;refine ⟨rfl,rfl,mX x,?_,?_,?_,?_⟩
    ·simp[Instr.loadAt,Instr.sureAddr,asAddr,eW]
    ·simp[asAddr,eW]
    ·cases x with
     |none=>rfl
     |some f=>exact ⟨#[],#[],rfl,rfl,rfl⟩
    ·cases x<;>simp[aeL,K.ids,K.idsL]
  ·simp[b9,HM.go]at e
 ·rename_i t v;by_cases b9:cx.isTy T t=true
  ·obtain ⟨i,E,rfl⟩:=hP b9;rw[b9]at e;simp only[aj,HM.go,bM,c0]at e;obtain ⟨rfl,rfl,rfl⟩:=e;obtain ⟨b,o,cs,rfl,gg,au⟩:=aV;have eW:=FR (w:=w) tab E (au.len) (λj v al=>(gg j v al).2);refine ⟨rfl,rfl,_,?_,?_,h3 (cJ.of au).1,by simp[K.ids]⟩<;>simp[Instr.loadAt,Instr.sureAddr,asAddr,eW]
  ·simp[b9,HM.go]at e
 ·rename_i o d i p;by_cases b9:cx.isTyO T (d.at_ p)=true
  ·obtain ⟨ti,E,gg⟩:=GR b9;rw[b9]at e;simp only[aj,HM.go]at e;split at e
   ·rename_i ch t xs fz hm;obtain ⟨kJ,ab,rfl⟩:=oR hm;by_cases gG:d=t
    ·subst gG;simp only[cf,aj]at e;obtain ⟨I,H1,cG,M,V⟩:=HM.go_bind_some e;rw[HM.go_ofOpt]at M;obtain ⟨lI,ao,M⟩:=ib.1 M;simp only[c0]at M;obtain ⟨rfl,rfl,rfl⟩:=M;simp only[HM.go,bM,c0]at V;obtain ⟨rfl,rfl,rfl⟩:=V;obtain ⟨b,cur,c7,dp,rfl,g1,g2,g3,g4,g5,g6,g7,-⟩:=ad2 h ab aV;obtain ⟨bf,a6⟩:=ajg (I:=⟨d,xs.getD i d.zero⟩) g7 ao;simp only at bf a6;rw[gg]at bf;injection bf with bf
     have hle:=si gg;have ad:=a6.len;have eW:=FR (w:=w) (b:=b) (o:=dp+i*d.size+d.offAt p) tab E (by rw[bf];exact ad) (λj v al=>by
      rw[List.drop_take,List.take_take,List.drop_drop]at al;rw[List.getElem?_take]at al;split at al
      ·rw[List.getElem?_drop]at al;rw[qi g1];simpa using al
      ·cases al)
     refine ⟨rfl,rfl,_,?_,?_,h3 (cJ.of a6).1,by simp[K.ids]⟩<;>simp[Instr.loadAt,Instr.sureAddr,asAddr,eW,bf]
    ·simp[gG,HM.go]at e
   ·rename_i Ft t x hm;have ab:=akr hm;by_cases gG:d=t
    ·subst gG;simp only[cf,aj]at e;rw[HM.go_ofOpt]at e;obtain ⟨y,bu,e⟩:=ib.1 e;simp only[c0]at e;obtain ⟨rfl,rfl,rfl⟩:=e;obtain ⟨b,cur,c7,ae,rfl,g1,g2,g3,g4,g5,rfl,g7,g8⟩:=ad3 h ab aV;obtain ⟨ty,aQ,bf,a6,cq,ef,gS,iv⟩:=aq8 g5 g7 bu;rw[gg]at bf;injection bf with bf
     subst bf;have hle:=si gg;have ad:(aQ.cells.toList).length=ti.ty.size:=by rw[ef];simp;omega
     have eW:=FR (w:=w) (b:=b) (o:=d.offAt p) (cs:=aQ.cells.toList) tab E ad (λj v al=>by
      rw[ef,List.getElem?_take]at al;split at al
      ·rw[List.getElem?_drop]at al;rw[qi g1];simpa using al
      ·cases al)
     refine ⟨rfl,rfl,_,?_,?_,a6,λj al=>h.idsB o _ _ _ ab j (iv j al)⟩<;>simp[Instr.loadAt,Instr.sureAddr,asAddr,eW,<-Vv rfl gS]
    ·simp[gG,HM.go]at e
   ·simp[HM.go]at e
  ·simp[b9,HM.go]at e
 ·simp[HM.go]at e
theorem aqG [Env] (tab:cT P cx) {T:bs} {a:K} (e:(Bm cx T a).go J n=some (r,aB,aE)) (h:ck φ ι w J) {mH:aA} (aV:a.rel φ ι w mH):
  cL φ ι w J n r aB aE ((Instr.loadAt T mH).run P w):=by
 obtain ⟨q,G,v,W,-,aC,bd⟩:=aam tab e h aV;subst q G;exact cL.pure h aC bd W
end
open Go.RowKit
theorem ab8 (t:az) (p s:List Nat):t.at_ (p++s)=(t.at_ p).bind λae=>ae.at_ s:=by
 induction p generalizing t with
 |nil=>simp[az.at_]
 |cons i p aO=>
  simp only[List.cons_append,az.at_];cases t.nth i with
  |none=>rfl
  |some ae=>exact aO ae
theorem aas {t ae:az} {p s:List Nat} (h:t.at_ p=some ae):t.offAt (p++s)=t.offAt p+ae.offAt s:=by
 induction p generalizing t with
 |nil=>simp[az.at_]at h;subst h;simp[az.offAt]
 |cons i p aO=>
  simp only[az.at_]at h;split at h
  ·rename_i e he;simp only[List.cons_append,az.offAt,he];rw[aO h,Nat.add_assoc]
  ·cases h
section
variable {P:cA} {cx:cm} {φ:bP} {ι:Nat->aA} {w:bm} {J:List aH} {n:Nat} {r:K} {aB:List aH} {aE:Nat}
theorem go_ret {α:Type} {a b:α} {J aB:List aH} {n aE:Nat} (e:(HM.ret a).go J n=some (b,aB,aE)):b=a/\aB=J/\aE=n:=by simp only[HM.go,bM,c0]at e;exact ⟨e.1.symm,e.2.1.symm,e.2.2.symm⟩
theorem go_opt {α:Type} {o:Option α} {b:α} {J aB:List aH} {n aE:Nat} (e:(HM.ofOpt o).go J n=some (b,aB,aE)):o=some b/\aB=J/\aE=n:=by rw[HM.go_ofOpt]at e;obtain ⟨a,aV,e⟩:=ib.1 e;simp only[c0]at e;obtain ⟨rfl,rfl,rfl⟩:=e;exact ⟨aV,rfl,rfl⟩
theorem go_bif {α:Type} {b:Bool} {x:HM α} {J:List aH} {n:Nat} {r:α×List aH×Nat} (e:(bif b then x else .fail).go J n=some r):b=true/\x.go J n=some r:=by
 cases b
 ·simp[HM.go]at e
 ·exact ⟨rfl,e⟩
theorem AH (tab:cT P cx) {T:bs} {i:gq} (E:cx.ti T=some i) {f:Nat} {ae:bs} (aM:i.fields[f]? =some ae):
  (i.arr=false/\ ∃dz fd,P.underlying T=some (.struct dz)/\dz[f]? =some fd/\fd.type=ae/\nY P cx i.ty f ae fd.offset)\/
   (i.arr=true/\ ∃e dQ,P.underlying T=some (.array i.fields.length e)/\P.info? e=some dQ/\ae=e/\nY P cx i.ty f ae (f*dQ.size))\/i.ty.isAgg=false:=by
 have ao:=(tab T i E).desc;unfold la at ao;split at ao
 ·rename_i e;exact .inr (.inr (by rw[e];rfl))
 ·rename_i e;exact .inr (.inr (by rw[e];rfl))
 ·rename_i e;exact .inr (.inr (by rw[e];rfl))
 ·rename_i e;exact .inr (.inr (by rw[e];rfl))
 ·rename_i e;exact .inr (.inr (by rw[e];rfl))
 ·rcases ao with ⟨aV,dz,ao,af,ag⟩|⟨aV,n,e,dQ,ao,aN,he,ag⟩
  ·obtain ⟨fd,q,G,W⟩:=ag f ae aM;exact .inl ⟨aV,dz,fd,ao,q,G,W⟩
  ·obtain ⟨q,G⟩:=ag f ae aM;exact .inr (.inl ⟨aV,e,dQ,by rw[aN];exact ao,he,q,G⟩)
theorem kL (tab:cT P cx) {T:bs} {i:gq} (E:cx.ti T=some i) {t:az} (aX:i.ty=.list t):P.underlying T=some (.slice i.elem)/\sP P i.elem t i.bytes:=by have ao:=(tab T i E).desc;unfold la at ao;rw[aX]at ao;exact ⟨ao.1,ao.2.1⟩
theorem acv (tab:cT P cx) {T:bs} {i:gq} (E:cx.ti T=some i) {t:az} (aX:i.ty=.list t): ∃ae,cx.ti i.elem=some ae/\ae.ty=t:=by have ao:=(tab T i E).desc;unfold la at ao;rw[aX]at ao;exact ao.2.2
theorem rY (tab:cT P cx) {T:bs} {i:gq} (E:cx.ti T=some i) (aX:i.ty=.str):P.underlying T=some .string:=by have ao:=(tab T i E).desc;unfold la at ao;rw[aX]at ao;exact ao
theorem GQ (tab:cT P cx) {T:bs} {i:gq} (E:cx.ti T=some i) {k:IntKind} (aX:i.ty=.int k):P.underlying T=some (.int k):=by have ao:=(tab T i E).desc;unfold la at ao;rw[aX]at ao;exact ao
theorem y0 {e:bs} {t:az} {bytes:Nat} (h:sP P e t bytes) (w:bm):(sizeOf e).run P w=.ok t.size w:=by obtain ⟨dQ,z,q,G,_⟩:=h;simp[sizeOf,typeInfo,q,G]
theorem xz {o:Nat} {t:az} {i:Nat} {p:List Nat} {v:aA} (h: ∃b k,((∃n c,ι o=.slice (some ⟨b,k,none⟩) n c/\i<n)\/(ι o=.pointer (some ⟨b,0,none⟩)/\i=0/\k=0))/\v=.pointer (some ⟨b,k+i*t.size+t.offAt p,none⟩)/\(t.at_ p).isSome):(K.ptr o t i p).rel φ ι w v:=h
theorem ask {t:az} {x:t.den} {v:aA} (h: ∃b o cs,v=.pointer (some ⟨b,o,none⟩)/\kz φ w b o cs/\bA φ w t x cs):(K.fptr t x).rel φ ι w v:=h
theorem Be {t:az} {o aR E:Nat} {v:aA} (h: ∃A n c di,ι o=.slice A n c/\aR<=E/\E<=n/\n<=c/\v=.slice di (E-aR) (c-aR)/\(c≠aR->di=A.map (·.add (aR*t.size)))/\(c≠0-> ∃b k,A=some ⟨b,k,none⟩)):(K.view t o aR E).rel φ ι w v:=h
theorem uM {t:az} {o:Nat} {v:aA} (h:v=ι o/\ ∃A n c,v=.slice A n c):(K.own t o).rel φ ι w v:=h
theorem aj5 {t:az} {xs:List t.den} {v:aA} (h: ∃A n,v=.slice A n n/\bA φ w (.list t) xs [v]):(K.clip t xs).rel φ ι w v:=h
theorem abk (tab:cT P cx) {T:bs} {ti:gq} (E:cx.ti T=some ti) (hT:ti.arr=false) (jI:ti.ty.isAgg=true) {f:Nat} (bw:f<ti.fields.length) (b o:Nat):
  ∃j,cx.ti ti.fields[f]=some j/\ti.ty.nth f=some j.ty/\(Instr.fieldAt T (.pointer (some ⟨b,o,none⟩)) f).run P w=.ok (.pointer (some ⟨b,o+ti.ty.offs f,none⟩)) w:=by
 rcases AH tab E (hx bw) with ⟨_,dz,fd,ao,q,G,W⟩|⟨q,_⟩|q
 ·obtain ⟨ab,j,al,mw,eb⟩:=W;refine ⟨j,al,mw,?_⟩;have R0:=EO (w:=w) tab al;unfold Instr.fieldAt;simp only[Sem.run_bind,run_underlying ao,Result.andThen_ok,q,Instr.sureAddr,Sem.run_pure,fieldPlace,G,R0];rw[if_neg u];simp[hJ,ab]
 ·rw[hT]at q;cases q
 ·rw[jI]at q;cases q
theorem P5 {b o k d:Nat} {cs:List aA} (gg:kz φ w b o cs):kz φ w b (o+k) ((cs.drop k).take d):=by
 intro j ae al;rw[List.getElem?_take]at al;split at al
 ·rw[List.getElem?_drop]at al;have:=gg _ ae al
  rwa [<-Nat.add_assoc]at this
 ·cases al
theorem ant [Env] (tab:cT P cx) {T:bs} {x:K} {f:Nat} (e:(Nv cx T x f).go J n=some (r,aB,aE)) (h:ck φ ι w J) {cN:aA} (an:x.rel φ ι w cN) (fH: ∀i∈x.ids,(aG J i).live=true):
  cL φ ι w J n r aB aE ((Instr.fieldAt T cN f).run P w):=by
 unfold Nv at e;split at e
 ·rename_i ti E;have s:=go_bif e;clear e;obtain ⟨L,e⟩:=s;simp only[bQ,eS,Nat.blt_eq]at L;obtain ⟨⟨hT,jI⟩,bw⟩:=L;cases x<;>simp only[HM.go,reduceCtorEq]at e
  case ptr o t j p=>
   have s:=go_bif e;clear e;obtain ⟨b9,e⟩:=s;obtain ⟨rfl,rfl,rfl⟩:=go_ret e;obtain ⟨ru,dO,gg⟩:=GR b9;rw[E]at dO;injection dO with dO
   subst dO;obtain ⟨b,k,L,rfl,aT⟩:=an;obtain ⟨gh,iF,mw,eW⟩:=abk (P:=P) (w:=w) tab E hT jI bw b (k+j*t.size+t.offAt p);have M:ti.ty.offAt [f]=ti.ty.offs f:=by simp[az.offAt,mw]
   refine cL.pure (r:=.ptr o t j (p++[f])) h (xz ⟨b,k,L,?_,?_⟩) (by simpa [K.ids] using fH) eW
   ·rw[aas gg,M];simp only[Nat.add_assoc]
   ·rw[ab8,gg];simp[az.at_,mw]
  case fptr t v=>
   have s:=go_bif e;clear e;obtain ⟨b9,e⟩:=s;obtain ⟨ru,dO,rfl⟩:=hP b9;rw[E]at dO;injection dO with dO
   subst dO;obtain ⟨I,H1,cG,M,V⟩:=HM.go_bind_some e;obtain ⟨ao,rfl,rfl⟩:=go_opt M;obtain ⟨rfl,rfl,rfl⟩:=go_ret V;obtain ⟨b,o,cs,rfl,gg,au⟩:=an;obtain ⟨g1,g2⟩:=Gr au ao;obtain ⟨gh,iF,mw,eW⟩:=abk (P:=P) (w:=w) tab E hT jI bw b o;exact cL.pure h (ask ⟨b,o+ti.ty.offs f,_,rfl,P5 gg,g2⟩) (by simp[K.ids]) eW
 ·simp[HM.go]at e
theorem apE [Env] (tab:cT P cx) {T:bs} {x:K} {f:Nat} (e:(Pk cx T x f).go J n=some (r,aB,aE)) (h:ck φ ι w J) {cN:aA} (an:x.rel φ ι w cN) (fH: ∀i∈x.ids,(aG J i).live=true):
  cL φ ι w J n r aB aE ((Instr.field T cN f).run P w):=by
 unfold Pk at e;split at e
 ·rename_i ti E;have s:=go_bif e;clear e;obtain ⟨L,e⟩:=s;simp only[bQ,eS,Nat.blt_eq]at L;obtain ⟨⟨⟨hT,jI⟩,bw⟩,aM⟩:=L;obtain ⟨au,rfl,rfl⟩:=go_opt e;obtain ⟨ae,aQ,bf,a6,cq,ef,gS,iv⟩:=abA an aM au;have a8:=(K.rel_fits x ti.ty cN an aM).2;rw[jI]at a8;obtain ⟨cs,rfl⟩:=uW a8;have eb:=(K.rel_fits x ti.ty _ an aM).1;rcases AH tab E (hx bw) with ⟨_,dz,fd,ao,q,G,W⟩|⟨q,_⟩|q
  ·obtain ⟨ab,j,al,mw,aAj⟩:=W;rw[bf]at mw;injection mw with mw
   subst mw;have hle:=GU bf;simp only[Value.cells]at eb ef;refine cL.pure h a6 (λi E=>fH i (iv i E)) ?_;unfold Instr.field;simp only[Sem.run_bind,run_underlying ao,Result.andThen_ok,q,G,asAgg,Sem.run_pure,part,Ox tab al];rw[Vv ef gS];unfold o5;by_cases aV:j.ty.isAgg=true
   ·rw[if_pos aV,if_pos aV];simp only[Sem.run_bind,EO tab al,Result.andThen_ok,Sem.run_pure];congr 2;apply Array.ext';rw[Array.toList_extract,List.extract_eq_take_drop,ab];simp
   ·simp only[Bool.not_eq_true]at aV;have af:j.ty.size=1:=by cases h:j.ty<;>first |rfl |(rw[h]at aV;simp[az.isAgg]at aV)
    have p7:ti.ty.offs f<cs.size:=by rw[eb];omega
    rw[af,ab];have M:(cs.toList.drop (ti.ty.offs f)).take 1=[cs[ti.ty.offs f]]:=by rw[l2 (by simpa using p7)];simp
    simp[aV,Array.getElem?_eq_getElem p7,M]
  ·rw[hT]at q;cases q
  ·rw[jI]at q;cases q
 ·simp[HM.go]at e
end
open Go.RowKit
section
variable {P:cA} {cx:cm} {φ:bP} {ι:Nat->aA} {w:bm} {J:List aH} {n:Nat} {r:K} {aB:List aH} {aE:Nat}
theorem JI {T e:bs} (ao:P.underlying T=some (.slice e)) {d:Nat} (af: ∀w,(sizeOf e).run P w=.ok d w) {a:Addr} {m c:Nat} {k:IntKind} {i:Int} (bW:0<=i) (q:i<m):
  (Instr.indexAt T (.slice (some a) m c) (.int k i)).run P w=.ok (.pointer (some (a.add (i.toNat*d)))) w:=by
 unfold Instr.indexAt;simp[asIntOf,run_underlying ao,af,bW,q]
theorem Tv {T e:bs} {m:Nat} (ao:P.underlying T=some (.array m e)) {d:Nat} (af: ∀w,(sizeOf e).run P w=.ok d w) {a:Addr} {k:IntKind} {i:Int} (bW:0<=i) (q:i<m):
  (Instr.indexAt T (.pointer (some a)) (.int k i)).run P w=.ok (.pointer (some (a.add (i.toNat*d)))) w:=by
 unfold Instr.indexAt;simp[asIntOf,run_underlying ao,af,bW,q,Instr.sureAddr]
theorem go_chk2 {α:Type} {b:Bool} {x:HM α} {J:List aH} {n:Nat} {r:α×List aH×Nat} (e:(HM.chk b x).go J n=some r):b=true/\x.go J n=some r:=HM.go_chk e
theorem adj {α:Type} {xs:List α} {i:Nat} {I:α} (h:i<xs.length):xs[i]? =some (xs.getD i I):=by rw[jQ,hx h];rfl
theorem acg {t:az} {xs:List t.den} {A:Option Addr} {m c:Nat} (h:bA φ w (.list t) xs [.slice A m c]) {i:Nat} (E:i<xs.length):
  ∃a,A=some a/\m=xs.length/\(K.fptr t (xs.getD i t.zero)).rel φ ι w (.pointer (some (a.add (i*t.size)))):=by
 obtain ⟨di,rI,eF,e,ad,aN,h⟩:=h;injection e with e _
 obtain ⟨rfl,rfl,rfl⟩:=iM e;rcases h with h |⟨b,o,a1,rfl,gg,ag⟩
 ·omega
 ·refine ⟨_,rfl,ad.symm,ask ⟨b,o+i*t.size,(a1.drop (i*t.size)).take t.size,by rw[hJ],P5 gg,?_⟩⟩;exact ag.get (λx c=>bA.len t x c) _ _ i _ (adj E)
theorem p1 (tab:cT P cx) {T:bs} {i:gq} (E:cx.ti T=some i) {t:az} (aX:i.ty=.list t):P.underlying T=some (.slice i.elem)/\ ∀w,(sizeOf i.elem).run P w=.ok t.size w:=
 ⟨(kL tab E aX).1,λw=>y0 (kL tab E aX).2 w⟩
theorem go_idxIn {α:Type} {k:Nat} {f:Nat->HM α} {J:List aH} {m:Nat} {s:α×List aH×Nat}: ∀n,(u0 k f n).go J m=some s->(f k).go J m=some s
 |0,h=>by simp[u0,HM.go]at h
 |n+1,h=>by
  unfold u0 at h;cases L:Nat.beq k n
  ·rw[L]at h;exact go_idxIn n (by simpa [HM.go] using h)
  ·rw[L]at h;have:k=n:=by simpa using L
   subst this;simpa [HM.go] using h
theorem anu [Env] (tab:cT P cx) {T:bs} {x:K} {i:Int} (e:(Nx cx T x i).go J n=some (r,aB,aE)) (h:ck φ ι w J) {cN:aA} (an:x.rel φ ι w cN) (fH: ∀i∈x.ids,(aG J i).live=true) (k:IntKind):
  cL φ ι w J n r aB aE ((Instr.indexAt T cN (.int k i)).run P w):=by
 unfold Nx at e;split at e
 ·rename_i t o;have s:=go_bif e;clear e;obtain ⟨b9,e⟩:=s;obtain ⟨ti,fu,eI⟩:=hP b9;obtain ⟨ao,af⟩:=p1 tab fu eI;simp only[HM.go]at e;split at e
  ·rename_i ch ae xs fz hm;obtain ⟨kJ,ab,rfl⟩:=oR hm;have s:=go_bif e;clear e;obtain ⟨hu,e⟩:=s;have hu:ae=t:=by simpa using hu
   subst hu;have s:=go_chk2 e;clear e;obtain ⟨L,e⟩:=s;simp only[bQ,dS]at L;obtain ⟨rfl,rfl,rfl⟩:=go_ret e;obtain ⟨rfl,_⟩:=an;have cu:=h.obj o;rw[ab]at cu;obtain ⟨A,m,c,M,V,aY,bp,bg⟩:=cu;rcases bg with bg |⟨b,pre,cur,c7,rfl,_⟩
   ·omega
   ·rw[M];refine cL.pure (r:=.ptr o ae i.toNat []) h (xz ⟨b,pre.size,.inl ⟨m,c,M,u⟩,rfl,rfl⟩) (by simpa [K.ids] using fH) ?_;rw[JI ao af L.1 u];simp[hJ,az.offAt]
  ·simp[HM.go]at e
 ·rename_i t o aR E;have s:=go_bif e;clear e;obtain ⟨b9,e⟩:=s;obtain ⟨ti,fu,eI⟩:=hP b9;obtain ⟨ao,af⟩:=p1 tab fu eI;have s:=go_chk2 e;clear e;obtain ⟨L,e⟩:=s;simp only[bQ,dS]at L;obtain ⟨rfl,rfl,rfl⟩:=go_ret e;obtain ⟨A,m,c,di,M,q,G,W,rfl,e6,de⟩:=an;obtain ⟨b,dp,rfl⟩:=de u;obtain rfl:=e6 u;refine cL.pure (r:=.ptr o t (aR+i.toNat) []) (v:=.pointer (some ⟨b,dp+(aR+i.toNat)*t.size+t.offAt [],none⟩)) h (xz ⟨b,dp,.inl ⟨m,c,M,u⟩,rfl,rfl⟩) (by simpa [K.ids] using fH) ?_;simp only[Option.map_some,hJ];rw[JI ao af L.1 L.2];simp[hJ,az.offAt,Nat.add_mul,Nat.add_assoc]
 ·rename_i o t j p;have s:=go_bif e;clear e;obtain ⟨b9,e⟩:=s;obtain ⟨ti,fu,gg⟩:=GR b9;rw[fu]at e;simp only at e;have s:=go_bif e;clear e;obtain ⟨hT,e⟩:=s;simp only[bQ]at hT;have s:=go_chk2 e;clear e;obtain ⟨L,e⟩:=s;simp only[bQ,dS]at L;have s:=go_idxIn _ e;clear e;have e:=s;clear s;obtain ⟨rfl,rfl,rfl⟩:=go_ret e;obtain ⟨b,dp,p2,rfl,aT⟩:=an;have bw:i.toNat<ti.fields.length:=u;rcases AH tab fu (hx bw) with ⟨q,_⟩|⟨_,ch,dQ,ao,pg,afM,ab,gh,iF,mw,_⟩|q
  ·rw[hT.1]at q;cases q
  ·refine cL.pure (r:=.ptr o t j (p++[i.toNat])) (v:=.pointer (some ⟨b,dp+j*t.size+t.offAt (p++[i.toNat]),none⟩)) h (xz ⟨b,dp,p2,rfl,?_⟩) (by simpa [K.ids] using fH) ?_
   ·rw[ab8,gg];simp[az.at_,mw]
   ·rw[Tv ao (d:=dQ.size) (λw=>by simp[sizeOf,typeInfo,pg]) L.1 L.2];rw[aas gg];simp[hJ,az.offAt,mw,<-ab,Nat.add_assoc]
  ·rw[hT.2]at q;cases q
 ·rename_i t v;have s:=go_bif e;clear e;obtain ⟨b9,e⟩:=s;obtain ⟨ti,fu,rfl⟩:=hP b9;rw[fu]at e;simp only at e;have s:=go_bif e;clear e;obtain ⟨hT,e⟩:=s;simp only[bQ]at hT;have s:=go_chk2 e;clear e;obtain ⟨L,e⟩:=s;simp only[bQ,dS]at L;have s:=go_idxIn _ e;clear e;have e:=s;clear s;obtain ⟨I,H1,cG,M,V⟩:=HM.go_bind_some e;obtain ⟨oC,rfl,rfl⟩:=go_opt M;obtain ⟨rfl,rfl,rfl⟩:=go_ret V;obtain ⟨b,o,cs,rfl,gg,au⟩:=an;obtain ⟨g1,g2⟩:=Gr au oC;have bw:i.toNat<ti.fields.length:=u;rcases AH tab fu (hx bw) with ⟨q,_⟩|⟨_,ch,dQ,ao,pg,afM,ab,gh,iF,mw,_⟩|q
  ·rw[hT.1]at q;cases q
  ·refine cL.pure (r:=.fptr I.t I.x) h (ask ⟨b,o+ti.ty.offs i.toNat,_,rfl,P5 gg,g2⟩) (by simp[K.ids]) ?_;rw[Tv ao (d:=dQ.size) (λw=>by simp[sizeOf,typeInfo,pg]) L.1 L.2];simp[hJ,<-ab]
  ·rw[hT.2]at q;cases q
 ·rename_i b off l;split at e
  ·rename_i ti fu;have s:=go_bif e;clear e;obtain ⟨hT,e⟩:=s;simp only[bQ]at hT;have s:=go_chk2 e;clear e;obtain ⟨L,e⟩:=s;simp only[bQ,dS]at L;have s:=go_idxIn _ e;clear e;have e:=s;clear s;obtain ⟨rfl,rfl,rfl⟩:=go_ret e;obtain ⟨rfl,gg⟩:=an;have bw:i.toNat<ti.fields.length:=u;rcases AH tab fu (hx bw) with ⟨q,_⟩|⟨_,ch,dQ,ao,pg,afM,ab,gh,iF,mw,_⟩|q
   ·rw[hT.1]at q;cases q
   ·refine cL.pure (r:=.gp b (off+ti.ty.offs i.toNat) (l.drop (ti.ty.offs i.toNat))) (v:=.pointer (some ⟨b,off+ti.ty.offs i.toNat,none⟩)) h ⟨rfl,?_⟩ (by simp[K.ids]) ?_
    ·intro j v al;rw[List.map_drop,List.getElem?_drop]at al;have:=gg _ v al
     rwa [<-Nat.add_assoc]at this
    ·rw[Tv ao (d:=dQ.size) (λw=>by simp[sizeOf,typeInfo,pg]) L.1 L.2];simp[hJ,<-ab]
   ·rw[hT.2]at q;cases q
  ·simp[HM.go]at e
 ·rename_i t xs;have s:=go_bif e;clear e;obtain ⟨b9,e⟩:=s;obtain ⟨ti,fu,eI⟩:=hP b9;obtain ⟨ao,af⟩:=p1 tab fu eI;have s:=go_chk2 e;clear e;obtain ⟨L,e⟩:=s;simp only[bQ,dS]at L;obtain ⟨rfl,rfl,rfl⟩:=go_ret e;obtain ⟨A,m,c,rfl,rj⟩:=cJ.list an;obtain ⟨a,rfl,rfl,ar⟩:=acg (ι:=ι) (show bA φ w (.list t) xs [.slice A m c] from ⟨A,m,c,rfl,rj⟩) (i:=i.toNat) u;exact cL.pure h ar (by simp[K.ids]) (JI ao af L.1 L.2)
 ·rename_i t xs;have s:=go_bif e;clear e;obtain ⟨b9,e⟩:=s;obtain ⟨ti,fu,eI⟩:=hP b9;obtain ⟨ao,af⟩:=p1 tab fu eI;have s:=go_chk2 e;clear e;obtain ⟨L,e⟩:=s;simp only[bQ,dS]at L;obtain ⟨rfl,rfl,rfl⟩:=go_ret e;obtain ⟨A,m,rfl,rj⟩:=an;obtain ⟨a,rfl,rfl,ar⟩:=acg (ι:=ι) rj (i:=i.toNat) u;exact cL.pure h ar (by simp[K.ids]) (JI ao af L.1 L.2)
 ·simp[HM.go]at e
end
open Go.RowKit
section
variable {P:cA} {cx:cm} {φ:bP} {ι:Nat->aA} {w:bm} {J:List aH} {n:Nat} {r:K} {aB:List aH} {aE:Nat}
theorem apF [Env] (tab:cT P cx) {T:bs} {x:K} {i:Int} (e:(arm cx T x i).go J n=some (r,aB,aE)) (h:ck φ ι w J) {cN:aA} (an:x.rel φ ι w cN) (k:IntKind):
  cL φ ι w J n r aB aE ((Instr.index T cN (.int k i)).run P w):=by
 unfold arm at e;split at e
 ·rename_i d;have s:=go_bif e;clear e;obtain ⟨b9,e⟩:=s;obtain ⟨ti,fu,eI⟩:=hP b9;have ao:=rY tab fu eI;have s:=go_chk2 e;clear e;obtain ⟨L,e⟩:=s;simp only[bQ,dS]at L;obtain ⟨rfl,rfl,rfl⟩:=go_ret e;obtain rfl:=cJ.str.1 an;refine cL.plain h (Plain.int _ _) ?_;have bw:i.toNat<d.length:=u;have q:(⟨⟨d⟩⟩:ByteArray)[i.toNat]? =some (d.getD i.toNat 0):=by have G:i.toNat<(⟨⟨d⟩⟩:ByteArray).size:=bw;rw[getElem?_pos (⟨⟨d⟩⟩:ByteArray) i.toNat G];rw[jQ,hx bw];rfl
  unfold Instr.index;simp[asIntOf,run_underlying ao,L.1,q]
 ·simp[HM.go]at e
def n8:Option aA->Option Int->Prop
 |none,none=>True
 |some v,some a=> ∃k,v=.int k a
 |_,_=>False
theorem DH {isSlice:Bool} {m c:Nat} {aR E:Option aA} {l h:Option Int} (ad:n8 aR l) (bg:n8 E h) (bW:0<=l.getD 0) (q:l.getD 0<=h.getD m) (G:h.getD m<=m) (W:m<=c):
  (Instr.sliceBounds isSlice m c aR E none).run P w=.ok ((l.getD 0).toNat,(h.getD m).toNat,c) w:=by
 unfold Instr.sliceBounds Instr.sliceBound;cases aR with
 |none=>
  cases l with
  |some a=>exact ad.elim
  |none=>
   cases E with
   |none=>
    cases h with
    |some a=>exact bg.elim
    |none=>simp
   |some v=>
    cases h with
    |none=>exact bg.elim
    |some a=>
     obtain ⟨k,rfl⟩:=bg;simp only[Option.getD_none,Option.getD_some]at bW q G;have:a<=(c:Int):=u;simp[asIntOf,q,this]
 |some ae=>
  cases l with
  |none=>exact ad.elim
  |some b=>
   obtain ⟨eD,rfl⟩:=ad;simp only[Option.getD_some]at bW q G ⊢;cases E with
   |none=>
    cases h with
    |some a=>exact bg.elim
    |none=>
     simp only[Option.getD_none]at q G ⊢;simp[asIntOf,bW,q]
   |some v=>
    cases h with
    |none=>exact bg.elim
    |some a=>
     obtain ⟨k,rfl⟩:=bg;simp only[Option.getD_some]at q G ⊢;have aC:0<=a:=u;have bd:a<=(c:Int):=u;have bD:max a 0=a:=u;simp[asIntOf,bW,aC,bd,bD,q]
theorem aon {m c:Nat} {aR:Option aA} {l:Option Int} {k a6:IntKind} {a I:Int} (ad:n8 aR l) (bW:0<=l.getD 0) (q:l.getD 0<=a) (G:a<=I) (W:I<=m) (aC:m<=c):
  (Instr.sliceBounds true m c aR (some (.int k a)) (some (.int a6 I))).run P w=.ok ((l.getD 0).toNat,a.toNat,I.toNat) w:=by
 unfold Instr.sliceBounds Instr.sliceBound;have bd:0<=a:=u;have bD:0<=I:=u;have dU:I<=(c:Int):=u;have gB:max I 0=I:=u;have pc:max a 0=a:=u;cases aR with
 |none=>
  cases l with
  |some a=>exact ad.elim
  |none=>simp[asIntOf,bd,bD,dU,gB,pc,G]
 |some ae=>
  cases l with
  |none=>exact ad.elim
  |some b=>
   obtain ⟨eD,rfl⟩:=ad;simp only[Option.getD_some]at bW q ⊢;simp[asIntOf,bW,bd,bD,dU,gB,pc,q,G]
   try (intro bw;omega)
theorem aoo {m c:Nat} {aR E:Option aA} {l h:Option Int} (ad:n8 aR l) (bg:n8 E h) (bW:0<=l.getD 0) (q:l.getD 0<=h.getD (m:Int)) (G:h.getD (m:Int)<=(c:Int)):
  (Instr.sliceBounds true m c aR E none).run P w=.ok ((l.getD 0).toNat,(h.getD (m:Int)).toNat,c) w:=by
 unfold Instr.sliceBounds Instr.sliceBound;cases aR with
 |none=>
  cases l with
  |some a=>exact ad.elim
  |none=>
   cases E with
   |none=>
    cases h with
    |some a=>exact bg.elim
    |none=>simp
   |some v=>
    cases h with
    |none=>exact bg.elim
    |some a=>
     obtain ⟨k,rfl⟩:=bg;simp only[Option.getD_none,Option.getD_some]at bW q G;have:a<=(c:Int):=u;simp[asIntOf,q,this]
 |some ae=>
  cases l with
  |none=>exact ad.elim
  |some b=>
   obtain ⟨eD,rfl⟩:=ad;simp only[Option.getD_some]at bW q G ⊢;cases E with
   |none=>
    cases h with
    |some a=>exact bg.elim
    |none=>
     simp only[Option.getD_none]at q G ⊢;simp[asIntOf,bW,q]
   |some v=>
    cases h with
    |none=>exact bg.elim
    |some a=>
     obtain ⟨k,rfl⟩:=bg;simp only[Option.getD_some]at q G ⊢;have aC:0<=a:=u;have bd:a<=(c:Int):=u;have bD:max a 0=a:=u;simp[asIntOf,bW,aC,bd,bD,q]
theorem aom {m c:Nat} {aR:Option aA} {l:Option Int} {k a6:IntKind} {a:Int} (ad:n8 aR l) (bW:0<=l.getD 0) (q:l.getD 0<=a) (G:a<=m) (W:m<=c):
  (Instr.sliceBounds true m c aR (some (.int k a)) (some (.int a6 a))).run P w=.ok ((l.getD 0).toNat,a.toNat,a.toNat) w:=by
 unfold Instr.sliceBounds Instr.sliceBound;have aC:0<=a:=u;have bd:a<=(c:Int):=u;cases aR with
 |none=>
  cases l with
  |some a=>exact ad.elim
  |none=>
   have bD:max a 0=a:=u;simp[asIntOf,aC,bd,bD]
 |some ae=>
  cases l with
  |none=>exact ad.elim
  |some b=>
   obtain ⟨eD,rfl⟩:=ad;simp only[Option.getD_some]at bW q ⊢;have bD:max a 0=a:=u;simp[asIntOf,bW,aC,bd,bD,q]
   try (intro bw;omega)
theorem bA.part {t:az} {xs:List t.den} {A di:Option Addr} {m c l h eF:Nat} (au:bA φ w (.list t) xs [.slice A m c]) (q:l<=h) (G:h<=m) (W:h-l<=eF) (e6:h≠l->di=A.map (·.add (l*t.size))):
  bA φ w (.list t) ((xs.take h).drop l) [.slice di (h-l) eF]:=by
 obtain ⟨jC,cW,ba,e,ad,aN,bg⟩:=au;injection e with e _
 obtain ⟨rfl,rfl,rfl⟩:=iM e;refine ⟨_,_,_,rfl,by simp[ad];omega,W,?_⟩;by_cases bK:h-l=0
 ·exact .inl bK
 ·refine .inr ?_;rcases bg with bg |⟨b,o,a1,rfl,gg,ag⟩
  ·omega
  ·refine ⟨b,o+l*t.size,(a1.take (h*t.size)).drop (l*t.size),by rw[e6 u];simp[hJ],?_,(ag.take (λx c=>bA.len t x c) h).drop (λx c=>bA.len t x c) l⟩;intro i v E;rw[List.getElem?_drop,List.getElem?_take]at E;split at E
   ·have:=gg _ v E
    rwa [<-Nat.add_assoc]at this
   ·cases E
theorem jp {T e:bs} (ao:P.underlying T=some (.slice e)) {d:Nat} (af: ∀w,(sizeOf e).run P w=.ok d w) {A:Option Addr} {m c:Nat} {aR E fS:Option aA} {l h eF:Nat}
  (L:(Instr.sliceBounds true m c aR E fS).run P w=.ok (l,h,eF) w):
  (Instr.sliceAt T (.slice A m c) aR E fS).run P w=.ok (.slice (if eF=l then A else A.map (·.add (l*d))) (h-l) (eF-l)) w:=by
 unfold Instr.sliceAt Instr.slice;simp[run_underlying ao,L,af]
theorem aoM [Env] (tab:cT P cx) {T:bs} {x:K} {aR E fS:Option Int} (e:(OU cx T x aR E fS).go J n=some (r,aB,aE)) (h:ck φ ι w J) {cN:aA} (an:x.rel φ ι w cN) (fH: ∀i∈x.ids,(aG J i).live=true)
  {vT a8 mv:Option aA} (ad:n8 vT aR) (bg:n8 a8 E) (hm:n8 mv fS):
  cL φ ι w J n r aB aE ((Instr.sliceAt T cN vT a8 mv).run P w):=by
 unfold OU at e;split at e
 ·rename_i d;cases fS with
  |some m=>simp[HM.go]at e
  |none=>
   cases mv with
   |some v=>exact hm.elim
   |none=>
    simp only at e;have s:=go_bif e;clear e;obtain ⟨b9,e⟩:=s;obtain ⟨ti,fu,eI⟩:=hP b9;have ao:=rY tab fu eI;have s:=go_chk2 e;clear e;obtain ⟨L,e⟩:=s;simp only[bQ,dS]at L;obtain ⟨rfl,rfl,rfl⟩:=go_ret e;obtain rfl:=cJ.str.1 an;refine cL.plain h (Plain.str _) ?_;have lO:=DH (P:=P) (w:=w) (isSlice:=false) (c:=d.length) ad bg L.1.1 L.1.2 L.2 (ca _);have eb:(⟨⟨d⟩⟩:ByteArray).size=d.length:=rfl;unfold Instr.sliceAt Instr.slice;simp only[Sem.run_bind,run_underlying ao,Result.andThen_ok,eb,lO,Option.isSome_none,Bool.false_eq_true,if_false,Sem.run_pure];congr 2;apply ByteArray.ext;apply Array.ext';simp[ByteArray.data_extract,List.extract_eq_take_drop,List.drop_take]
 ·rename_i t o;cases fS with
  |some yT=>
   cases E with
   |none=>simp[HM.go]at e
   |some a=>
    cases mv with
    |none=>exact hm.elim
    |some v=>
     obtain ⟨a6,rfl⟩:=hm;cases a8 with
     |none=>exact bg.elim
     |some v=>
      obtain ⟨bf,rfl⟩:=bg;simp only at e;have s:=go_bif e;clear e;obtain ⟨b9,e⟩:=s;obtain ⟨ti,fu,eI⟩:=hP b9;obtain ⟨ao,af⟩:=p1 tab fu eI;simp only[HM.go]at e;split at e
      ·rename_i ch ae xs fz CW;obtain ⟨kJ,ab,rfl⟩:=oR CW;have s:=go_bif e;clear e;obtain ⟨hu,e⟩:=s;have hu:ae=t:=by simpa using hu
       subst hu;have s:=go_chk2 e;clear e;obtain ⟨L,e⟩:=s;simp only[bQ,dS]at L;obtain ⟨⟨⟨fm,eG⟩,q4⟩,IF⟩:=L;obtain ⟨rfl,rfl,rfl⟩:=go_ret e;obtain ⟨rfl,_⟩:=an;have cu:=h.obj o;rw[ab]at cu;obtain ⟨A,m,c,M,V,aY,bp,IJ⟩:=cu;subst V;rw[M];have lO:=aon (P:=P) (w:=w) (c:=c) (k:=bf) (a6:=a6) ad fm eG q4 IF aY;exact cL.pure (r:=.undef) h trivial (by simp[K.ids]) (jp ao af lO)
      ·simp[HM.go]at e
  |none=>
   cases mv with
   |some v=>exact hm.elim
   |none=>
    simp only at e;have s:=go_bif e;clear e;obtain ⟨b9,e⟩:=s;obtain ⟨ti,fu,eI⟩:=hP b9;obtain ⟨ao,af⟩:=p1 tab fu eI;simp only[HM.go]at e;split at e
    ·rename_i ch ae xs fz CW;obtain ⟨kJ,ab,rfl⟩:=oR CW;have s:=go_bif e;clear e;obtain ⟨hu,e⟩:=s;have hu:ae=t:=by simpa using hu
     subst hu;have s:=go_chk2 e;clear e;obtain ⟨L,e⟩:=s;simp only[bQ,dS]at L;obtain ⟨rfl,rfl,rfl⟩:=go_ret e;obtain ⟨rfl,_⟩:=an;have cu:=h.obj o;rw[ab]at cu;obtain ⟨A,m,c,M,V,aY,bp,IJ⟩:=cu;subst V;rw[M];have lO:=DH (P:=P) (w:=w) (isSlice:=true) (c:=c) ad bg L.1.1 L.1.2 L.2 aY;refine cL.pure (r:=.view ae o (aR.getD 0).toNat (E.getD (xs.length:Int)).toNat) h (Be ⟨A,_,c,_,M,u,u,aY,rfl,λct=>by rw[if_neg ct],?_⟩) (by simpa [K.ids] using fH) (jp ao af lO);intro au;rcases IJ with IJ |⟨b,pre,cur,c7,rfl,_⟩
     ·exact absurd IJ au
     ·exact ⟨b,_,rfl⟩
    ·simp[HM.go]at e
 ·rename_i t o a z;cases fS with
  |some m=>simp[HM.go]at e
  |none=>
   cases mv with
   |some v=>exact hm.elim
   |none=>
    simp only at e;have s:=go_bif e;clear e;obtain ⟨b9,e⟩:=s;obtain ⟨ti,fu,eI⟩:=hP b9;obtain ⟨ao,af⟩:=p1 tab fu eI;simp only[HM.go]at e;split at e
    case h_2=>simp[HM.go]at e
    rename_i ch ae xs fz CW;obtain ⟨kJ,ab,rfl⟩:=oR CW;have s:=go_bif e;clear e;obtain ⟨hu,e⟩:=s;have hu:ae=t:=by simpa using hu
    subst hu;have s:=go_chk2 e;clear e;obtain ⟨L,e⟩:=s;simp only[bQ,dS]at L;obtain ⟨rfl,rfl,rfl⟩:=go_ret e;obtain ⟨A,m,c,di,M,q,G,W,rfl,e6,de⟩:=an;have cu:=h.obj o;rw[ab]at cu;obtain ⟨jC,cW,ba,gA,V,-⟩:=cu;rw[M]at gA;obtain ⟨rfl,rfl,rfl⟩:=iM gA;have lO:=aoo (P:=P) (w:=w) (m:=z-a) (c:=c-a) ad bg L.1.1 L.1.2 u;refine cL.pure (r:=.view ae o (a+(aR.getD 0).toNat) (a+(E.getD ((z-a:Nat):Int)).toNat)) h (Be ⟨A,m,c,if c-a=(aR.getD 0).toNat then di else di.map (·.add ((aR.getD 0).toNat*ae.size)),M,u,u,W,?_,?_,de⟩) (by simpa [K.ids] using fH) (jp ao af lO)
    ·congr 1<;>omega
    ·intro ct;rw[if_neg u,e6 u];cases A with
     |none=>rfl
     |some amd=>
      obtain ⟨b,dp,h4⟩:=de u;injection h4 with h4
      subst h4;simp[hJ,Nat.add_mul,Nat.add_assoc]
 ·rename_i ch t;cases fS with
  |some m=>simp[HM.go]at e
  |none=>
   cases mv with
   |some v=>exact hm.elim
   |none=>
    simp only at e;have s:=go_bif e;clear e;obtain ⟨b9,e⟩:=s;obtain ⟨ti,fu,eI⟩:=hP b9;obtain ⟨ao,af⟩:=p1 tab fu eI;have s:=go_chk2 e;clear e;obtain ⟨L,e⟩:=s;simp only[bQ,dS]at L;obtain ⟨fm,eG⟩:=L;obtain ⟨rfl,rfl,rfl⟩:=go_ret e;simp only[K.rel]at an;subst an;have q4:E.getD ((0:Nat):Int)=0:=by simpa using eG
    have lO:=DH (P:=P) (w:=w) (isSlice:=true) (m:=0) (c:=0) ad bg u (by rw[fm,q4];exact Int.le_refl _) (by rw[q4];exact Int.le_refl _) (ca _);rw[fm,q4]at lO;exact cL.pure (r:=.nils ch t) (v:=.slice none 0 0) h (by simp[K.rel]) (by simp[K.ids]) (by simpa using jp ao af lO)
 ·obtain ⟨I,H1,cG,M,V⟩:=HM.go_bind_some e;obtain ⟨rfl,ax,g,yC⟩:=pm x φ cN J n I H1 cG M h an fH;clear e;split at V
  ·rename_i t xs;have s:=go_bif V;clear V;obtain ⟨b9,V⟩:=s;obtain ⟨ti,fu,eI⟩:=hP b9;obtain ⟨ao,af⟩:=p1 tab fu eI;obtain ⟨A,m,c,rfl,hlen,vv,rj⟩:=cJ.list yC;have pe:bA ax w (.list t) xs [.slice A m c]:=⟨A,m,c,rfl,hlen,vv,rj⟩;subst hlen;cases fS with
   |none=>
    cases mv with
    |some v=>exact hm.elim
    |none=>
     simp only at V;have s:=go_chk2 V;clear V;obtain ⟨L,V⟩:=s;simp only[bQ,dS]at L;obtain ⟨rfl,rfl,rfl⟩:=go_ret V;have lO:=DH (P:=P) (w:=w) (isSlice:=true) (c:=c) ad bg L.1.1 L.1.2 L.2 vv;have avT:List.length xs<=c:=vv;have bq:(aR.getD 0).toNat<=(E.getD (List.length xs:Int)).toNat:=u;have bU:(E.getD (List.length xs:Int)).toNat<=List.length xs:=u;have yn:=bA.part (di:=if c=(aR.getD 0).toNat then A else A.map (·.add ((aR.getD 0).toNat*t.size))) (eF:=c-(aR.getD 0).toNat) pe bq bU u (λct=>by rw[if_neg u]);exact cL.ghost g (h3 ⟨yn,rfl⟩) (by simp[K.ids]) (jp ao af lO)
   |some yT=>
    cases mv with
    |none=>exact hm.elim
    |some v=>
     obtain ⟨a6,rfl⟩:=hm;cases E with
     |none=>simp[HM.go]at V
     |some a=>
      cases a8 with
      |none=>exact bg.elim
      |some v=>
       obtain ⟨bf,rfl⟩:=bg;simp only at V;have s:=go_chk2 V;clear V;obtain ⟨L,V⟩:=s;simp only[bQ,dS]at L;obtain ⟨⟨⟨fm,eG⟩,q4⟩,rfl⟩:=L;obtain ⟨rfl,rfl,rfl⟩:=go_ret V;have lO:=aom (P:=P) (w:=w) (c:=c) (k:=bf) (a6:=a6) ad fm eG q4 vv;have avT:List.length xs<=c:=vv;have bq:(aR.getD 0).toNat<=a.toNat:=u;have bU:a.toNat<=List.length xs:=u;have yn:=bA.part (di:=if a.toNat=(aR.getD 0).toNat then A else A.map (·.add ((aR.getD 0).toNat*t.size))) (eF:=a.toNat-(aR.getD 0).toNat) pe bq bU (ca _) (λct=>by rw[if_neg ct]);exact cL.ghost g (aj5 ⟨_,_,rfl,yn⟩) (by simp[K.ids]) (jp ao af lO)
  ·simp[HM.go]at V
theorem aqi [Env] (tab:cT P cx) {T:bs} {x:K} {aR E fS:Option Int} (e:(Pw cx T x aR E fS).go J n=some (r,aB,aE)) (h:ck φ ι w J) {cN:aA} (an:x.rel φ ι w cN) (fH: ∀i∈x.ids,(aG J i).live=true)
  {vT a8 mv:Option aA} (ad:n8 vT aR) (bg:n8 a8 E) (hm:n8 mv fS):
  cL φ ι w J n r aB aE ((Instr.sliceAt T cN vT a8 mv).run P w):=by
 unfold Pw at e;split at e
 ·rename_i t xs a;have s:=go_bif e;clear e;obtain ⟨b9,e⟩:=s;obtain ⟨ti,fu,eI⟩:=hP b9;obtain ⟨ao,af⟩:=p1 tab fu eI;have s:=go_chk2 e;clear e;obtain ⟨L,e⟩:=s;simp only[bQ,dS]at L;obtain ⟨rfl,rfl,rfl⟩:=go_ret e;obtain ⟨A,m,rfl,pe⟩:=an;have hlen:xs.length=m:=by
   obtain ⟨jC,cW,ba,M,ad,_⟩:=pe;injection M with M _
   obtain ⟨rfl,rfl,rfl⟩:=iM M;exact ad
  subst hlen;cases mv with
  |some v=>exact hm.elim
  |none=>
   have lO:=DH (P:=P) (w:=w) (isSlice:=true) (m:=xs.length) (c:=xs.length) ad bg aU (by simpa using L.1) (by simpa using L.2) (ca _);have bU:a.toNat<=List.length xs:=by have:=L.2;omega
   have yn:=bA.part (di:=if xs.length=0 then A else A.map (·.add (0*t.size))) (l:=0) (h:=a.toNat) (eF:=xs.length) pe (Nat.zero_le _) bU u (λct=>by rw[if_neg u]);simp only[List.drop_zero,Nat.sub_zero]at yn;have eW:=jp (A:=A) ao af lO;simp only[Option.getD_none,Option.getD_some,Int.toNat_zero,Nat.sub_zero]at eW;exact cL.pure (r:=.lim t (xs.take a.toNat) xs.length) h (show K.rel φ ι w (.lim t (xs.take a.toNat) xs.length) _ from ⟨_,_,rfl,yn⟩) (by simp[K.ids]) eW
 ·exact aoM tab e h an fH ad bg hm
end
open Go.RowKit
section
variable {P:cA} {cx:cm} {φ:bP} {ι aJ:Nat->aA} {w aq:bm} {J aB:List aH} {n:Nat}
theorem uG [Env] (h:ck φ ι w J) {o b:Nat} (ab:(aG J o).owns=true) (L:dN (ι o)=some b):b<w.heap.size:=by
 have ar:=h.obj o;cases dC:aG J o with
 |arr e t xs fz=>
  rw[dC]at ar;obtain ⟨n,c,pre,cur,c7,_,_,_,_,_,q,_⟩:=ar.blk_arr L;exact (kY.1 q).1
 |box T t r=>
  rw[dC]at ar;obtain ⟨bZ,cur,c7,v,M,q,_⟩:=ar;rw[M]at L;have:bZ=b:=by simpa [dN] using L
  subst this;exact (kY.1 q).1
 |iter d pos=>
  rw[dC]at ar;obtain ⟨bZ,n,M,q,_⟩:=ar;rw[M]at L;have:bZ=b:=by simpa [dN] using L
  subst this;exact (kY.1 q).1
 |loop Y R p=>
  rw[dC]at ar;obtain ⟨l,rec,c,M,q⟩:=ar;rw[M]at L;have:l=b:=by simpa [dN] using L
  subst this;exact (kY.1 q.heap).1
 |hole=>rw[dC]at ab;cases ab
 |gone=>rw[dC]at ab;cases ab
theorem qr [Env] (h:ck φ ι w J) {b k:Nat} (L:φ b k):b<w.heap.size:=by obtain ⟨v,a8⟩:=h.phi b k L;exact World.block_lt_of_cell? w _ a8
theorem ck.update [Env] (h:ck φ ι w J) (C:Nat->Prop) (ag: ∀i,¬C i->aG aB i=aG J i) (E: ∀i,(aG J i).live=true->aJ i=ι i) (ad: ∀i,(aG J i).live=true->(aG aB i).live=true)
  (au: ∀i,C i->jE φ aJ aq i (aG aB i)) (ae5: ∀i,C i-> ∀j∈(aG aB i).ids,(aG aB j).live=true)
  (hw: ∀i b,¬C i->(aG J i).owns=true->dN (ι i)=some b->aq.heap[b]? =w.heap[b]?) (kv: ∀b k,φ b k->aq.cell? ⟨b,k,none⟩=w.cell? ⟨b,k,none⟩)
  (oB: ∀i j b,C i->(aG aB i).owns=true->(aG aB j).owns=true->dN (aJ i)=some b->dN (aJ j)=some b->i=j):ck φ aJ aq aB:=by
 have ft: ∀i,(aG J i).owns=true->(aG J i).live=true:=λi ab=>by cases dC:aG J i<;>rw[dC]at ab<;>first |rfl |(cases ab)
 refine ⟨λi=> ?_,λi j b jt lk q G=> ?_,λb k L=> ?_,λi j al=> ?_,λg=>(h.glob g).mono (λ_ _ h=>h) kv⟩
 ·by_cases eM:C i
  ·exact au i eM
  ·rw[ag i eM];refine (h.obj i).keep (λ_ _ h=>h) kv (E i) (λj al=>E j (h.ids i j al)) λb ab L=>⟨hw i b eM ab L,λ_ h=>h⟩
 ·by_cases eM:C i
  ·exact oB i j b eM jt lk q G
  ·by_cases aeN:C j
   ·exact (oB j i b aeN lk jt G q).symm
   ·rw[ag i eM]at jt;rw[ag j aeN]at lk;rw[E i (ft i jt)]at q;rw[E j (ft j lk)]at G;exact h.apart i j b jt lk q G
 ·rw[kv b k L];exact h.phi b k L
 ·by_cases eM:C i
  ·exact ae5 i eM j al
  ·rw[ag i eM]at al;exact ad j (h.ids i j al)
def ej (ι:Nat->aA) (n:Nat) (v:aA):Nat->aA:=λi=>if i=n then v else ι i
structure ig (w aq:bm):Prop where
 os:aq.os=w.os
 tape:aq.tape=w.tape
 output:aq.output=w.output
 size:w.heap.size<=aq.heap.size
 blocks: ∀b,b<w.heap.size->aq.heap[b]? =w.heap[b]?
theorem ig.cell (g:ig w aq) {b k:Nat} (L:b<w.heap.size):aq.cell? ⟨b,k,none⟩=w.cell? ⟨b,k,none⟩:=by simp[World.cell?,g.blocks b L]
theorem ig.alloc (w:bm) (o:Obj):ig w (w.alloc o):=⟨rfl,rfl,rfl,aU,λb L=>Below.heap_alloc w o b L⟩
theorem ig.drew_alloc (w:bm) (o:Obj):ig w (w.drew.alloc o):=⟨rfl,rfl,rfl,aU,λb L=>Below.heap_alloc w.drew o b L⟩
theorem BJ [Env] (h:ck φ ι w J) (aN:n<=J.length) (aM:(aG J n).live=false) (g:ig w aq) {v:aA} {dh:aH} (dC:jE φ (ej ι n v) aq n dh) (fs: ∀i∈dh.ids,(aG J i).live=true) (gF:dh.live=true)
  (jV: ∀b,dN v=some b->w.heap.size<=b):
  ck φ (ej ι n v) aq (cc J n dh)/\Step φ ι w J φ (ej ι n v) aq (cc J n dh)/\eo ι J (ej ι n v) (cc J n dh)/\iW J n (cc J n dh) (n+1):=by
 have bR: ∀i,aG (cc J n dh) i=if i=n then dh else aG J i:=λi=>gO J n dh i aN
 have ct: ∀i,(aG J i).live=true->i≠n:=λi E e=>by subst e;rw[aM]at E;cases E
 have ft: ∀i,(aG J i).owns=true->(aG J i).live=true:=λi ab=>by cases dC:aG J i<;>rw[dC]at ab<;>first |rfl |(cases ab)
 have E: ∀i,(aG J i).live=true->ej ι n v i=ι i:=λi E=>by simp[ej,ct i E]
 have ad: ∀i,(aG J i).live=true->(aG (cc J n dh) i).live=true:=λi h=>by rw[bR,if_neg (ct i h)];exact h
 have kv: ∀b k,φ b k->aq.cell? ⟨b,k,none⟩=w.cell? ⟨b,k,none⟩:=λb k L=>g.cell (qr h L)
 refine ⟨h.update (λi=>i=n) (λi eM=>by rw[bR,if_neg eM]) E ad ?_ ?_ (λi b _ ab L=>g.blocks b (uG h ab L)) kv ?_,?_,⟨E,ad⟩,?_⟩
 ·rintro i rfl;rw[bR,if_pos rfl];exact dC
 ·rintro i rfl j al;rw[bR,if_pos rfl]at al;exact ad j (fs j al)
 ·rintro i j b rfl q G W aC;by_cases al:j=i
  ·exact al.symm
  ·rw[bR,if_neg al]at G;rw[E j (ft j G)]at aC;have:=uG h G aC;have:=jV b (by simpa [ej] using W);omega
 ·refine ⟨λ_ _ h=>h,kv,λ_ _ h=>.inl h,g.size,g.os,g.tape,g.output,λb L _=>g.blocks b L,λb L=> ?_⟩;obtain ⟨o,q,G⟩:=L;rw[bR]at q;split at q
  ·rename_i e;subst e;exact .inl (jV b (by simpa [ej] using G))
  ·rename_i e;exact .inr ⟨o,q,by simpa [ej,e] using G⟩
 ·refine ⟨u,?_,λh=> ?_,λi E=>by rw[bR,if_neg u],λh=> ?_⟩
  ·rcases Nat.lt_or_ge n J.length with q |q
   ·rw[ik J n dh q];exact ca _
   ·have:n=J.length:=u;subst this;rw[tI];omega
  ·rcases Nat.lt_or_ge n J.length with q |q
   ·rw[ik J n dh q];exact q
   ·have:n=J.length:=u;subst this;rw[tI];exact ca _
  ·subst h;rw[tI]
structure jk (w aq:bm) (b:Nat):Prop where
 os:aq.os=w.os
 tape:aq.tape=w.tape
 output:aq.output=w.output
 size:aq.heap.size=w.heap.size
 blocks: ∀k,k≠b->aq.heap[k]? =w.heap[k]?
theorem jk.refl (w:bm) (b:Nat):jk w w b:=⟨rfl,rfl,rfl,rfl,λ_ _=>rfl⟩
theorem jk.trans {Er:bm} {b:Nat} (g:jk w aq b) (k:jk aq Er b):jk w Er b:=
 ⟨k.os.trans g.os,k.tape.trans g.tape,k.output.trans g.output,k.size.trans g.size,λi E=>(k.blocks i E).trans (g.blocks i E)⟩
theorem jk.cell {b:Nat} (g:jk w aq b) {c k:Nat} (L:c≠b):aq.cell? ⟨c,k,none⟩=w.cell? ⟨c,k,none⟩:=by simp[World.cell?,g.blocks c L]
theorem BI [Env] (h:ck φ ι w J) {o b:Nat} (ab:(aG J o).owns=true) (L:dN (ι o)=some b) (g:jk w aq b) (kv: ∀k,¬φ b k) {dh:aH} (dC:jE φ ι aq o dh) (fs: ∀i∈dh.ids,(aG J i).live=true) (gF:dh.owns=true):
  ck φ ι aq (cc J o dh)/\Step φ ι w J φ ι aq (cc J o dh)/\eo ι J ι (cc J o dh)/\iW J n (cc J o dh) n:=by
 have ft: ∀i,(aG J i).owns=true->(aG J i).live=true:=λi ab=>by cases dC:aG J i<;>rw[dC]at ab<;>first |rfl |(cases ab)
 have bw:=gP (ft o ab);have bR: ∀i,aG (cc J o dh) i=if i=o then dh else aG J i:=λi=>gO J o dh i (Nat.le_of_lt bw)
 have avR:dh.live=true:=by cases dh<;>first |rfl |(cases gF)
 have ra: ∀i,(aG (cc J o dh) i).live=(aG J i).live:=λi=>by
  rw[bR];split
  ·rename_i e;subst e;rw[avR,ft i ab]
  ·rfl
 have ad: ∀i,(aG J i).live=true->(aG (cc J o dh) i).live=true:=λi h=>by rw[ra];exact h
 have Dh: ∀c k,φ c k->aq.cell? ⟨c,k,none⟩=w.cell? ⟨c,k,none⟩:=λc k au=>g.cell (λe=>kv k (e▸au))
 refine ⟨h.update (λi=>i=o) (λi eM=>by rw[bR,if_neg eM]) (λ_ _=>rfl) ad ?_ ?_ (λi c eM jt au=>g.blocks c ?_) Dh ?_,?_,⟨λ_ _=>rfl,ad⟩,?_⟩
 ·rintro i rfl;rw[bR,if_pos rfl];exact dC
 ·rintro i rfl j al;rw[bR,if_pos rfl]at al;exact ad j (fs j al)
 ·rintro rfl;exact eM (h.apart i o c jt ab au L)
 ·rintro i j c rfl q G W aC;by_cases al:j=i
  ·exact al.symm
  ·rw[bR,if_neg al]at G;exact h.apart i j c ab G W aC
 ·refine ⟨λ_ _ h=>h,Dh,λ_ _ h=>.inl h,by rw[g.size];exact ca _,g.os,g.tape,g.output,λc au aN=>g.blocks c (λe=>aN ⟨o,ab,e▸L⟩),λc au=> ?_⟩;obtain ⟨i,q,G⟩:=au;rw[bR]at q;split at q
  ·rename_i e;subst e;exact .inr ⟨i,ab,G⟩
  ·exact .inr ⟨i,q,G⟩
 ·exact ⟨ca _,by rw[ik J o dh bw];exact ca _,λh=>by rw[ik J o dh bw];exact h,λi _=>ra i,λh=>by rw[ik J o dh bw,h]⟩
theorem Oz (pre cur:Array aA) (news:List aA) (a l:Nat):((pre++cur).toList.take (pre.size+a)++news++(pre++cur).toList.drop (pre.size+a+l)).toArray=pre++(cur.toList.take a++news++cur.toList.drop (a+l)).toArray:=by
 apply Array.ext';have q:(pre++cur).toList.take (pre.size+a)=pre.toList++cur.toList.take a:=by rw[Array.toList_append,show pre.size=pre.toList.length by simp,List.take_length_add_append]
 have G:(pre++cur).toList.drop (pre.size+a+l)=cur.toList.drop (a+l):=by rw[Array.toList_append,show pre.size+a+l=pre.toList.length+(a+l) by simp;omega,<-List.drop_drop,List.drop_left]
 rw[q,G];simp
theorem Hg (pre cur:Array aA) (k:Nat):(pre++cur)[pre.size+k]? =cur[k]? :=by rw[Array.getElem?_append_right u,show pre.size+k-pre.size=k by omega]
theorem aj0 (pre cur:Array aA) (k:Nat):(pre++cur).toList.drop (pre.size+k)=cur.toList.drop k:=by rw[Array.toList_append,show pre.size+k=pre.toList.length+k by simp,<-List.drop_drop,List.drop_left]
theorem J8 (P:cA) {b:Nat} {e:bs} {c7:Nat×Nat} (o:Nat): ∀(aQ:List aA) (i:Nat) (cur:Array aA) (w:bm),w.heap[b]? =some (.cells cur e c7)->sR c7 cur.size->o+i+aQ.length<=cur.size->(∀v∈aQ,v.oneCell'=true)->
  ∃aq,(storeCells ⟨b,o,none⟩ aQ i).run P w=.ok () aq/\aq.heap[b]? =some (.cells (cur.toList.take (o+i)++aQ++cur.toList.drop (o+i+aQ.length)).toArray e c7)/\jk w aq b
 |[],i,cur,w,L,aM,ad,q=>⟨w,rfl,by simp[L],jk.refl w b⟩
 |v::r,i,cur,w,L,aM,ad,q=>by
  simp only[ia]at ad;have bw:o+i<cur.size:=u;have au:w.cell? ⟨b,o+i,none⟩=some cur[o+i]:=by rw[qi L,Array.getElem?_eq_getElem bw]
  have bK:w.frozen? ⟨b,o+i,none⟩=false:=by have:=aM (o+i) bw;simp only[World.frozen?,L];simp only[Bool.and_eq_false_iff,decide_eq_false_iff_not];omega
  have gG:(store ((⟨b,o,none⟩:Addr).add i) v).run P w=.ok () (w.setCell ⟨b,o+i,none⟩ v):=by rw[hJ,run_store P w _ v _ (q v aU),au];simp[bK]
  have fm:(w.setCell ⟨b,o+i,none⟩ v).heap[b]? =some (.cells (cur.setIfInBounds (o+i) v) e c7):=by simp only[World.setCell,Array.getElem?_modify,L,if_pos,Option.map_some];simp
  have hc:jk w (w.setCell ⟨b,o+i,none⟩ v) b:=⟨rfl,rfl,rfl,by simp[World.setCell],λk ag=>Below.heap_setCell w _ v k ag⟩;obtain ⟨aq,G,W,aC⟩:=J8 P o r (i+1) (cur.setIfInBounds (o+i) v) (w.setCell ⟨b,o+i,none⟩ v) fm (by simpa using aM) (by simp;omega) (λx an=>q x (by simp[an]));refine ⟨aq,?_,?_,hc.trans aC⟩
  ·simp only[storeCells,Sem.run_bind,gG,Result.andThen_ok,G]
  ·rw[W];congr 2;apply Array.ext';simp only[Array.toList_setIfInBounds,ia];have CS:o+i<cur.toList.length:=by simpa using bw
   rw[show o+(i+1)=o+i+1 by omega,List.take_set,List.drop_set_of_lt u,List.take_succ_eq_append_getElem CS];have hlen:(cur.toList.take (o+i)).length=o+i:=by simp;omega
   rw[List.set_append_right _ _ u,hlen];simp[show o+i+1+r.length=o+i+(r.length+1) by omega]
end
open Go.RowKit
section
variable {P:cA} {cx:cm} {φ:bP} {ι aJ:Nat->aA} {w aq:bm} {J:List aH} {n:Nat} {r:K} {aB:List aH} {aE:Nat}
mutual
theorem K.rel_one: ∀(r:K) (t:az) (v:aA),r.rel φ ι w v->r.fits t=true-> ∀ae∈v.cells.toList,ae.oneCell'=true
 | .dat ae x,t,v,h,aM=>h.1.one _ _ _
 | .nils _ ae,t,v,h,aM=>by simp only[K.rel]at h;subst h;intro ae hu;simp[Value.cells]at hu;subst hu;rfl
 | .own ae o,t,v,h,aM=>by obtain ⟨_,A,n,c,rfl⟩:=h;intro ae hu;simp[Value.cells]at hu;subst hu;rfl
 | .agg l,t,v,h,aM=>by obtain ⟨cs,rfl,h⟩:=h;exact K.relL_one l t cs.toList h (by simpa [K.fits] using aM)
 | .ptr o ae i p,t,v,h,aM=>by obtain ⟨b,_,_,rfl,_⟩:=h;intro ae hu;simp[Value.cells]at hu;subst hu;rfl
 | .fptr ae x,t,v,h,aM=>by obtain ⟨b,o,cs,rfl,_⟩:=h;intro ae hu;simp[Value.cells]at hu;subst hu;rfl
 | .fn f a b,t,v,h,aM=>by obtain ⟨x,y,rfl,_⟩:=h;intro ae hu;simp[Value.cells]at hu;subst hu;rfl
 | .iface T r,t,v,h,aM=>by obtain ⟨ae,rfl,_⟩:=h;intro ae hu;simp[Value.cells]at hu;subst hu;rfl
 | .nilI,t,v,h,aM=>by simp only[K.rel]at h;subst h;intro ae hu;simp[Value.cells]at hu;subst hu;rfl
 | .nilF,t,v,h,aM=>by simp only[K.rel]at h;subst h;intro ae hu;simp[Value.cells]at hu;subst hu;rfl
 | .nilP,t,v,h,aM=>by simp only[K.rel]at h;subst h;intro ae hu;simp[Value.cells]at hu;subst hu;rfl
 | .undef,_,_,_,aM=>by simp[K.fits]at aM
 | .atl _,_,_,_,aM=>by simp[K.fits]at aM
 | .lim ..,_,_,_,aM=>by simp[K.fits]at aM
 | .yld Y o,t,v,h,aM=>by obtain ⟨_,l,rfl⟩:=h;intro ae hu;simp[Value.cells]at hu;subst hu;rfl
 | .gp ..,_,_,_,aM=>by simp[K.fits]at aM
 | .dfr ..,_,_,_,aM=>by simp[K.fits]at aM
 | .clip ..,_,_,_,aM=>by simp[K.fits]at aM
 | .nilv,_,_,_,aM=>by simp[K.fits]at aM
 | .view ..,_,_,_,aM=>by simp[K.fits]at aM
 | .tup _,_,_,_,aM=>by simp[K.fits]at aM
theorem K.relL_one: ∀(l:List K) (t:az) (cs:List aA),K.relL φ ι w l cs->K.fitsL l t=true-> ∀ae∈cs,ae.oneCell'=true
 |[],t,cs,h,aM=>by simp only[K.relL]at h;subst h;simp
 |r::l,t,cs,⟨v,ba,e,q,G⟩,aM=>by
  subst e;cases t with
  |pair a b=>
   simp only[K.fitsL,bQ]at aM;intro ae hu;rcases dn.1 hu with hu |hu
   ·exact K.rel_one r a v q aM.1 ae hu
   ·exact K.relL_one l b ba G aM.2 ae hu
  |_=>simp[K.fitsL]at aM
end
theorem xo {T:bs} {v:aA} (h:r.rel φ ι w v):(cx.typ T r).rel φ ι w v:=by
 unfold cm.typ;split
 ·split
  ·split
   ·exact h
   ·trivial
  ·trivial
 ·exact h
theorem xn {T:bs}: ∀i∈(cx.typ T r).ids,i∈r.ids:=by
 unfold cm.typ;split
 ·split
  ·split<;>simp[K.ids]
  ·simp[K.ids]
 ·exact λ_ h=>h
theorem NS [Env] {x:K} (e:(BG x).go J n=some (r,aB,aE)) (h:ck φ ι w J) {v:aA} (an:x.rel φ ι w v) (fH: ∀i∈x.ids,(aG J i).live=true):
  aE=n/\ ∃ax,ff φ ι w J ax aB/\r.rel ax ι w v/\ ∀i∈r.ids,(aG aB i).live=true:=by
 unfold BG at e;split at e
 ·obtain ⟨I,H1,cG,M,V⟩:=HM.go_bind_some e;obtain ⟨rfl,rfl,rfl⟩:=go_ret V;obtain ⟨aN,ax,g,a8⟩:=pm _ φ v J n I aB aE M h an fH;exact ⟨aN,ax,g,h3 a8,by simp[K.ids]⟩
 ·obtain ⟨rfl,rfl,rfl⟩:=go_ret e;obtain ⟨A,m,rfl,au⟩:=an;exact ⟨rfl,φ,ff.refl h,h3 ⟨au,rfl⟩,by simp[K.ids]⟩
 ·obtain ⟨rfl,rfl,rfl⟩:=go_ret e;exact ⟨rfl,φ,ff.refl h,an,fH⟩
theorem acr (m:Nat):sR (0,0) m:=λk _ h=>u
theorem uC (t:az) (m:Nat):yf t (0,0) m:=⟨acr m,.inr aU⟩
def jj (J:List aH) (n aE:Nat):Prop:=n<=J.length/\ ∀i,n<=i->i<aE->(aG J i).live=false
theorem jj.ghost [Env] {ax:bP} (f:jj J n aE) (g:ff φ ι w J ax aB):jj aB n aE:=⟨by rw[g.len];exact f.1,λi q G=>by rw[g.live];exact f.2 i q G⟩
theorem ato (T:bs) (v:aA):(newVar T v).run P w=.ok ⟨w.heap.size,0,none⟩ (w.alloc (.cells v.cells T)):=by simp[newVar,newRow]
theorem ald [Env] (h:ck φ ι w J) {T:bs} {t:az} {v:aA} (ar:r.rel φ ι w v) (aM:r.fits t=true) (ad: ∀i∈r.ids,(aG J i).live=true) (aN:n<=J.length) (h5:(aG J n).live=false) (aX:(t.at_ []).isSome=true):
  cL φ ι w J n (.ptr n t 0 []) (cc J n (.box T t r)) (n+1) (.ok (.pointer (some ⟨w.heap.size,0,none⟩)) (w.alloc (.cells v.cells T))):=by
 obtain ⟨eb,_⟩:=K.rel_fits r t v ar aM;have ct: ∀i∈r.ids,i≠n:=λi E e=>by have:=ad i E;rw[e,h5]at this;cases this
 have g:=ig.alloc w (.cells v.cells T);have L:(w.alloc (.cells v.cells T)).heap[w.heap.size]? =some (.cells v.cells T (0,0)):=heap_alloc_new w _;have vA:r.rel φ (ej ι n (.pointer (some ⟨w.heap.size,0,none⟩))) (w.alloc (.cells v.cells T)) v:=
  K.rel_mono (λ_ _ h=>h) (λb k L=>g.cell (qr h L)) r v (λi E=>by simp[ej,ct i E]) ar
 obtain ⟨q,G,W,aC⟩:=BJ (v:=.pointer (some ⟨w.heap.size,0,none⟩)) (dh:=.box T t r) h aN h5 g
  ⟨w.heap.size,v.cells,(0,0),v,by simp[ej],L,eb,acr _,K.rel_one r t v ar aM,vA,rfl,aM,λk ag=>by have:=qr h ag;omega⟩ ad rfl
  (λb L=>by
          have:w.heap.size=b:=by simpa [dN] using L
          omega)
 refine ⟨_,_,φ,_,rfl,q,G,W,aC,xz ⟨w.heap.size,0,.inr ⟨by simp[ej],rfl,rfl⟩,by simp[az.offAt],aX⟩,?_⟩;intro i E;have:i=n:=by simpa [K.ids] using E
 subst this;rw[gO J i _ i aN,if_pos rfl];rfl
theorem aaK [Env] (tab:cT P cx) {T:bs} {x:K} (e:(By cx T x).go J n=some (r,aB,aE)) (h:ck φ ι w J) {v:aA} (an:x.rel φ ι w v) (fH: ∀i∈x.ids,(aG J i).live=true) (eg:jj J n aE):
  cL φ ι w J n r aB aE ((Instr.box T v).run P w):=by
 unfold By at e;split at e
 ·rename_i i E;obtain ⟨y,H1,cG,M,V⟩:=HM.go_bind_some e;clear e;obtain ⟨rfl,dF,g1,bu,tl⟩:=NS M h (xo an) (λi E=>fH i (xn i E));have s:=go_bif V;clear V;obtain ⟨aM,V⟩:=s;simp only[HM.go,bM,c0]at V;obtain ⟨rfl,rfl,rfl⟩:=V;have kt:=eg.ghost g1;obtain ⟨lz,aq,ax,aJ,bf,a6,cq,ef,gS,iv,rC⟩:=ald (T:=T) g1.rel bu aM tl kt.1 (kt.2 cG (ca _) u) rfl;injection bf with bf SA
  subst bf SA;exact ⟨_,_,ax,aJ,by simp[Instr.box,ato],a6,g1.step.trans cq,g1.keep.trans ef,(g1.nx _).trans gS,iv,rC⟩
 ·simp[HM.go]at e
theorem ab2 (tab:cT P cx) {T:bs} {z:K} (bK:cx.zeroRV 20 T=some z) (E: ∃i,cx.ti T=some i): ∃i v,cx.ti T=some i/\(∀w,(zeroValue T).run P w=.ok v w)/\v.cells.size=i.ty.size/\kb v=i.ty.isAgg/\z.fits i.ty=true/\z.ids=[]/\ ∀φ ι w,z.rel φ ι w v:=by obtain ⟨i,E⟩:=E;obtain ⟨info,q,G,W⟩:=(tab T i E).info;obtain ⟨v,bf,a6,cq,ef,gS,iv⟩:=W z bK;exact ⟨i,v,E,λw=>by simp[zeroValue,typeInfo,q,bf],a6,cq,ef,gS,iv⟩
theorem ao5 [Env] (tab:cT P cx) {T:bs} (e:(O6 cx T).go J n=some (r,aB,aE)) (h:ck φ ι w J) (eg:jj J n aE):
  cL φ ι w J n r aB aE ((Instr.alloc T true (.tuple #[])).run P w):=by
 unfold O6 at e;split at e
 ·rename_i z bK;have E: ∃i,cx.ti T=some i:=by
   cases E:cx.ti T with
   |some i=>exact ⟨i,rfl⟩
   |none=>simp[By,E,HM.go]at e
  obtain ⟨i,v,_,eW,_,_,_,fs,ar⟩:=ab2 tab bK E;have:=aaK tab e h (ar φ ι w) (by rw[fs];simp) eg;have V:(Instr.alloc T true (.tuple #[])).run P w=(Instr.box T v).run P w:=by unfold Instr.alloc;simp[eW,Instr.box]
  rw[V];exact this
 ·simp[HM.go]at e
end
end Go.X
