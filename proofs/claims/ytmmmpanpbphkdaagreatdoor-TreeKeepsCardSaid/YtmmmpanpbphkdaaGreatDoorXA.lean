import Derived.Below
import Derived.Laws.OwnMore
import Derived.Laws.IdiomCopy
import Derived.Laws.MakeOwn
import Derived.Orders
import Derived.KernelRfl
import Derived.LoopN
import Derived.Laws.Strings
import Derived.Lib.ConvBytes
import Derived.Laws.NewFold
set_option linter.unusedVariables false
set_option linter.unusedSimpArgs false
namespace Go.X
theorem u {p:Prop} (h:p:=by omega):p:=h
theorem aC {p:Prop} (h:p:=by kernel_rfl):p:=h
theorem aU {p:Prop} (h:p:=by simp):p:=h
theorem fm {p:Prop} (h:p:=by decide):p:=h
abbrev az:=Value
abbrev bk:=World
abbrev cv:=Program
abbrev bq:=TypeId
theorem an {α:Sort _} (a b:α):(bif true then a else b)=a:=rfl
theorem ay {α:Sort _} (a b:α):(bif false then a else b)=b:=rfl
theorem bN (b:Bool):(b&&b)=b:=Bool.and_self b
theorem bE (n:Nat):Int.toNat (n:Int)=n:=rfl
theorem bJ {α:Type _} (a b:α):(some a=some b)=(a=b):=Option.some.injEq a b
theorem c0 {α:Type _} {β:Type _} (a:α) (b:β) (c:α) (I:β):((a,b)=(c,I))=(a=c∧b=I):=Prod.mk.injEq a b c I
theorem bQ (a b:Bool):((a&&b)=true)=(a=true∧b=true):=Bool.and_eq_true a b
theorem dT {p:Prop} [Decidable p]:(decide p=true)=p:=decide_eq_true_eq
theorem cL:(!true)=false:=rfl
theorem cU:(!false)=true:=rfl
theorem dI {α:Type _} {l:List α} {n:Nat} (h:n<l.length):l[n]∈l:=List.getElem_mem h
theorem ew {α:Type _} {l:List α}:l.take l.length=l:=List.take_length
theorem ev {α:Type _} {i:Nat} {l:List α}:(l.take i).length=min i l.length:=List.length_take
theorem eF {α:Type _} {a b:List α}:(a++b).length=a.length+b.length:=List.length_append
theorem gI {α:Type _} {a:α} {l:List α}:a∈a::l:=List.mem_cons_self
theorem gU {α:Type _} (y:α) {a:α} {l:List α} (h:a∈l):a∈y::l:=List.mem_cons_of_mem y h
theorem h0 {α:Type _} (p:α→Bool) (l:List α):(l.filter p).length<=l.length:=List.length_filter_le p l
theorem gv {α:Type _} {a b:α}:a∈[b]↔a=b:=List.mem_singleton
theorem iy {α:Type _} {a:α} {l:List α}:(a::l).length=l.length+1:=rfl
theorem e8 {α:Type _} {p:α→Bool} {a:α} {l:List α}:a∈l.filter p↔a∈l∧p a=true:=List.mem_filter
theorem dp {α:Type _} {a:α} {d t:List α}:a∈d++t↔a∈d∨a∈t:=List.mem_append
theorem eW {α:Type _} {a b:α} (h:some a=some b):a=b:=Option.some.inj h
theorem hr {α:Type _} {l:List α} {i:Nat} (h:i<l.length):l[i]? =some l[i]:=List.getElem?_eq_getElem h
theorem iK {α:Type _} {i:Nat} {a:α} {l:List α}:l[i]? =some a↔∃h,l[i]=a:=List.getElem?_eq_some_iff
theorem jc {α:Type _} {xs:Array α} {i:Nat} {I:α}:xs.getD i I=xs[i]?.getD I:=Array.getD_eq_getD_getElem?
theorem kU {α:Type _} {i:Nat} {b:α} {xs:Array α}:xs[i]? =some b↔∃h,xs[i]=b:=Array.getElem?_eq_some_iff
theorem ia {α:Type _} {i:Nat} {l:List α} (h:l.length<=i):List.take i l=l:=List.take_of_length_le h
theorem fC {α:Type _} {p:α→Bool} {l:List α}:l.all p=true↔∀x,x∈l→p x=true:=List.all_eq_true
theorem h9 {α:Type _} {β:Type _} {b:β} {x:Option α} {f:α→β}:Option.map f x=some b↔∃a,x=some a∧f a=b:=Option.map_eq_some_iff
theorem jN {α:Type _} {l:List α} {i:Nat} {a:α}:l.getD i a=l[i]?.getD a:=List.getD_eq_getElem?_getD
theorem e7 {α:Type _} {b:α} {l:List α} {a:α}:a∈b::l↔a=b∨a∈l:=List.mem_cons
theorem kV {α:Type _} {l:List α} (h:l.length=0):l=[]:=List.eq_nil_of_length_eq_zero h
theorem hc {n m:Nat} (h:n.ble m=true):n<=m:=Nat.le_of_ble_eq_true h
theorem gV {n m:Nat} (k:Nat) (h:n<=m):n*k<=m*k:=Nat.mul_le_mul_right k h
theorem eT (b:Bool):((!b)=true)=(b=false):=Bool.not_eq_true' b
theorem ix {α:Type _} {xs:Array α}:xs.toList.length=xs.size:=Array.length_toList
theorem ca (n:Nat):n<=n:=Nat.le_refl n
theorem lZ {α:Type _} {i:Nat} {l:List α} (h:i<l.length):List.drop i l=l[i]::List.drop (i+1) l:=List.drop_eq_getElem_cons h
theorem cJ (h:Decidable True):@decide True h=true:=decide_true h
inductive aB where
 |bool |int (k:IntKind)|str |opq |unit |list (t:aB)|pair (a b:aB)
 deriving DecidableEq
@[reducible] def aB.den:aB->Type
 | .bool=>Bool | .int _=>Int | .str=>List UInt8 | .opq=>Unit | .unit=>Unit
 | .list t=>List t.den | .pair a b=>a.den×b.den
def aB.size:aB->Nat
 | .unit=>0 | .pair a b=>a.size+b.size |_=>1
def aB.isAgg:aB->Bool
 | .unit=>true | .pair _ _=>true |_=>false
def aB.zero:(t:aB)->t.den
 | .bool=>false | .int _=>(0:Int)| .str=>[] | .opq=>()| .unit=>()| .list _=>[] | .pair a b=>(a.zero,b.zero)
structure eN where
 t:aB
 x:t.den
def aB.cast? (t ae:aB) (x:t.den):Option ae.den:=if h:t=ae then some (h▸x) else none
def aB.nth:aB->Nat->Option aB
 | .pair a _,0=>some a | .pair _ b,i+1=>b.nth i |_,_=>none
def aB.offs:aB->Nat->Nat
 | .pair _ _,0=>0 | .pair a b,i+1=>a.size+b.offs i |_,_=>0
def aB.proj:(t:aB)->t.den->Nat->Option eN
 | .pair a _,x,0=>some ⟨a,x.1⟩| .pair _ b,x,i+1=>b.proj x.2 i |_,_,_=>none
def eN.at_:eN->List Nat->Option eN
 |I,[]=>some I
 |I,i::p=>match I.t.proj I.x i with
  |some e=>e.at_ p
  |none=>none
def aB.at_:aB->List Nat->Option aB
 |t,[]=>some t
 |t,i::p=>match t.nth i with
  |some e=>e.at_ p
  |none=>none
def aB.offAt:aB->List Nat->Nat
 |_,[]=>0
 |t,i::p=>t.offs i+(match t.nth i with |some e=>e.offAt p |none=>0)
def aB.setAt:(t:aB)->t.den->List Nat->eN->Option t.den
 |t,_,[],v=>v.t.cast? t v.x
 | .pair a _,x,0::p,v=>(a.setAt x.1 p v).map λy=>(y,x.2)
 | .pair _ b,x,(i+1)::p,v=>(b.setAt x.2 (i::p) v).map λy=>(x.1,y)
 |_,_,_,_=>none
def aB.cmp:aB->Bool
 | .bool=>true | .int _=>true | .str=>true | .unit=>true | .pair a b=>a.cmp&&b.cmp |_=>false
def aB.eqb:(t:aB)->t.den->t.den->Bool
 | .bool,x,y=>x==y
 | .int _,x,y=>decide ((x:Int)=y)
 | .str,x,y=>decide ((x:List UInt8)=y)
 | .pair a b,x,y=>a.eqb x.1 y.1&&b.eqb x.2 y.2
 |_,_,_=>true
def aB.chain:aB->Bool
 | .unit=>true | .pair _ b=>b.chain |_=>false
def aB.parts:(t:aB)->t.den->List eN
 | .pair a b,x=>⟨a,x.1⟩::b.parts x.2
 |_,_=>[]
inductive DT (α:Type):Type 1 where
 |leaf (a:α)
 |fail
 |br (b:Bool) (x y:DT α)
 |opt {β:Type} (o:Option β) (k:β->DT α)
 |alt {β γ:Type} (o:Option (β⊕γ)) (k:β->DT α) (h:γ->DT α)
namespace DT
variable {α β:Type}
def val:DT α->Option α
 |leaf a=>some a
 |fail=>none
 |br b x y=>bif b then x.val else y.val
 |opt o k=>match o with |some r=>(k r).val |none=>none
 |alt o k h=>match o with |some (.inl r)=>(k r).val |some (.inr r)=>(h r).val |none=>none
def bind:DT α->(α->DT β)->DT β
 |leaf a,f=>f a
 |fail,_=>fail
 |br b x y,f=>br b (x.bind f) (y.bind f)
 |opt o k,f=>opt o λr=>(k r).bind f
 |alt o k h,f=>alt o (λr=>(k r).bind f) (λr=>(h r).bind f)
def map (f:α->β) (x:DT α):DT β:=x.bind λa=>leaf (f a)
def ofOpt (o:Option α):DT α:=match o with |some a=>leaf a |none=>fail
end DT
inductive K where
 |undef
 |dat (t:aB) (x:t.den)
 |clip (t:aB) (xs:List t.den)
 |nilv
 |nils (e:bq) (t:aB)
 |own (t:aB) (o:Nat)
 |view (t:aB) (o:Nat) (aQ E:Nat)
 |ptr (o:Nat) (t:aB) (i:Nat) (path:List Nat)
 |fptr (t:aB) (x:t.den)
 |agg (l:List K)
 |tup (l:List K)
 |fn (f:FuncId) (first lF:List K)
 |iface (T:bq) (r:K)
 |nilI |nilF |nilP
 |atl (n:Nat)
 |lim (t:aB) (xs:List t.den) (c:Nat)
 |yld (Y:Nat) (o:Nat)
 |gp (b off:Nat) (l:List (Option Nat))
 |dfr (f:FuncId) (a b:List K) (t:aB) (xs:List t.den)
inductive aG where
 |hole
 |gone
 |arr (e:bq) (t:aB) (xs:List t.den) (fz:Bool)
 |box (T:bq) (t:aB) (r:K)
 |iter (d:List UInt8) (pos:Int)
 |loop (Y:Nat) (R:List (Nat×K)) (p:Int)
abbrev bR:=List (Nat×K)
structure bU where
 regs:bR
 heap:List aG
def bR.get:bR->Nat->Option K
 |[],_=>none
 |(e,d)::l,I=>bif Nat.beq I e then some d else bR.get l I
def bR.put:bR->Nat->K->bR
 |[],I,r=>[(I,r)]
 |(e,d)::l,I,r=>bif Nat.beq I e then (I,r)::l else bif Nat.blt I e then (I,r)::(e,d)::l else (e,d)::bR.put l I r
inductive HM (α:Type):Type 1 where
 |ret (a:α)
 |fail
 |br (b:Bool) (x y:HM α)
 |opt {β:Type} (o:Option β) (k:β->HM α)
 |alt {β γ:Type} (o:Option (β⊕γ)) (k:β->HM α) (h:γ->HM α)
 |rdc (o:Nat) (k:aG->HM α)
 |frz (o:Nat) (k:HM α)
 |rdw (o:Nat) (k:aG->HM α)
 |wr (o:Nat) (b:aG) (k:HM α)
 |nw (b:aG) (k:Nat->HM α)
 |nxt (k:Nat->HM α)
structure dj where
 rd:List Nat
 fz:List Nat
 wr:List Nat
def dj.none:dj:=⟨[],[],[]⟩
def aG.mask:aG->aG
 | .arr e t xs _=>.arr e t xs false
 |b=>b
def aG.freeze:aG->aG
 | .arr e t xs _=>.arr e t xs true
 |b=>b
def aF (h:List aG) (o:Nat):aG:=h.getD o .hole
def b8:List aG->Nat->aG->List aG
 |[],0,b=>[b]
 |[],_+1,_=>[]
 |_::l,0,b=>b::l
 |a::l,n+1,b=>a::b8 l n b
namespace HM
variable {α β:Type}
def bind:HM α->(α->HM β)->HM β
 |ret a,f=>f a
 |fail,_=>fail
 |br b x y,f=>br b (x.bind f) (y.bind f)
 |opt o k,f=>opt o λr=>(k r).bind f
 |alt o k h,f=>alt o (λr=>(k r).bind f) (λr=>(h r).bind f)
 |rdc o k,f=>rdc o λb=>(k b).bind f
 |frz o k,f=>frz o (k.bind f)
 |rdw o k,f=>rdw o λb=>(k b).bind f
 |wr o b k,f=>wr o b (k.bind f)
 |nw b k,f=>nw b λi=>(k i).bind f
 |nxt k,f=>nxt λi=>(k i).bind f
def map (f:α->β) (x:HM α):HM β:=x.bind λa=>ret (f a)
def ofOpt (o:Option α):HM α:=match o with |some a=>ret a |none=>fail
def chk (b:Bool) (x:HM α):HM α:=br b x fail
def ofDT:DT α->HM α
 | .leaf a=>ret a
 | .fail=>fail
 | .br b x y=>br b (ofDT x) (ofDT y)
 | .opt o k=>opt o λr=>ofDT (k r)
 | .alt o k h=>alt o (λr=>ofDT (k r)) (λr=>ofDT (h r))
def run:HM α->List aG->Nat->dj->DT (α×List aG×Nat×dj)
 |ret a,h,n,p=>.leaf (a,h,n,p)
 |fail,_,_,_=>.fail
 |br b x y,h,n,p=>.br b (x.run h n p) (y.run h n p)
 |opt o k,h,n,p=>.opt o λr=>(k r).run h n p
 |alt o k l,h,n,p=>.alt o (λr=>(k r).run h n p) (λr=>(l r).run h n p)
 |rdc o k,h,n,p=>(k (aF h o).mask).run h n ⟨o::p.rd,p.fz,p.wr⟩
 |frz o k,h,n,p=>k.run (b8 h o (aF h o).freeze) n ⟨p.rd,o::p.fz,p.wr⟩
 |rdw o k,h,n,p=>(k (aF h o)).run h n ⟨p.rd,p.fz,o::p.wr⟩
 |wr o b k,h,n,p=>k.run (b8 h o b) n ⟨p.rd,p.fz,o::p.wr⟩
 |nw b k,h,n,p=>(k n).run (b8 h n b) (n+1) ⟨p.rd,p.fz,n::p.wr⟩
 |nxt k,h,n,p=>(k n).run h n p
end HM
structure gl where
 ty:aB
 elem:bq:=0
 fields:List bq:=[]
 bytes:Nat:=8
 cmp:Bool:=false
 arr:Bool:=false
 nil:Bool:=false
 meths:List (String×Nat):=[]
structure cj where
 tab:List (Nat×gl)
 rawArg:FuncId->Nat->Bool
def cj.ti (cx:cj) (T:bq):Option gl:=go cx.tab
where
 go:List (Nat×gl)->Option gl
  |[]=>none
  |(U,i)::l=>bif Nat.beq T U then some i else go l
def adn {α:Type}:List (Option α)->Option (List α)
 |[]=>some []
 |o::l=>match o,adn l with
  |some a,some m=>some (a::m)
  |_,_=>none
def cj.zeroRV (cx:cj):Nat->bq->Option K
 |0,_=>none
 |n+1,T=>match cx.ti T with
  |none=>none
  |some i=>match i.fields with
   |[]=>match i.ty with
    | .list t=>some (.nils i.elem t)
    | .opq=>bif i.nil then some .nilI else bif i.arr then some .nilF else none
    |t=>some (.dat t t.zero)
   |f::dx=>match adn ((f::dx).map (cx.zeroRV n)) with
    |some l=>some (.agg l)
    |none=>none
def GD:az->K
 | .bool b=>.dat .bool b
 | .int k n=>.dat (.int k) n
 | .string d=>.dat .str d.data.toList
 | .slice none 0 0=>.nilv
 | .pointer none=>.nilP
 | .nilFunc=>.nilF
 | .nilIface=>.nilI
 |_=>.undef
def cj.typ (cx:cj) (T:bq) (r:K):K:=match r with
 | .nilv=>match cx.ti T with
  |some i=>match i.ty with
   | .list t=>.nils i.elem t
   |_=>.undef
  |none=>.undef
 |r=>r
mutual
def hn:K->HM eN
 | .dat t x=>.ret ⟨t,x⟩
 | .clip t xs=>.ret ⟨.list t,xs⟩
 | .lim t xs _=>.ret ⟨.list t,xs⟩
 | .nils _ t=>.ret ⟨.list t,[]⟩
 | .own t o=>.frz o (.rdc o λb=>match b with
  | .arr _ ae xs _=>match ae.list.cast? t.list xs with
   |some aZ=>.ret ⟨.list t,aZ⟩
   |none=>.fail
  |_=>.fail)
 | .view t o aQ E=>.frz o (.rdc o λb=>match b with
  | .arr _ ae xs _=>match ae.list.cast? t.list xs with
   |some aZ=>.ret ⟨.list t,(List.take E aZ).drop aQ⟩
   |none=>.fail
  |_=>.fail)
 | .agg l=>uS l
 |_=>.fail
def uS:List K->HM eN
 |[]=>.ret ⟨.unit,()⟩
 |r::l=>(hn r).bind λI=>(uS l).bind λe=>.ret ⟨.pair I.t e.t,(I.x,e.x)⟩
end
def w4 (t:aB) (r:K):HM t.den:=(hn r).bind λI=>HM.ofOpt (I.t.cast? t I.x)
mutual
def K.fits:K->aB->Bool
 | .dat ae _,t=>decide (ae=t)
 | .nils _ ae,t=>decide (aB.list ae=t)
 | .own ae _,t=>decide (aB.list ae=t)
 | .agg l,t=>K.fitsL l t
 | .ptr ..,t=>decide (t=.opq)
 | .fptr ..,t=>decide (t=.opq)
 | .fn ..,t=>decide (t=.opq)
 | .yld ..,t=>decide (t=.opq)
 | .iface ..,t=>decide (t=.opq)
 | .nilI,t=>decide (t=.opq)
 | .nilF,t=>decide (t=.opq)
 | .nilP,t=>decide (t=.opq)
 |_,_=>false
def K.fitsL:List K->aB->Bool
 |[],t=>decide (t=.unit)
 |r::l,t=>match t with
  | .pair a b=>r.fits a&&K.fitsL l b
  |_=>false
end
def K.comp:K->Nat->Option K
 | .agg l,i=>l[i]?
 | .dat t x,i=>(t.proj x i).map λI=>.dat I.t I.x
 |_,_=>none
def K.atPath:K->List Nat->Option K
 |r,[]=>some r
 |r,i::p=>match r.comp i with
  |some d=>d.atPath p
  |none=>none
def K.open_:K->Option (List K)
 | .agg l=>some l
 | .dat t x=>bif t.chain then some ((t.parts x).map λI=>.dat I.t I.x) else none
 |_=>none
def K.setPath:List Nat->K->K->Option K
 |[],_,v=>some v
 |i::p,r,v=>match r.open_ with
  |some l=>match l[i]? with
   |some d=>match K.setPath p d v with
    |some gG=>some (.agg (l.set i gG))
    |none=>none
   |none=>none
  |none=>none
def j8 (l:List UInt8):List Int:=l.map λb=>(b.toNat:Int)
def uf (l:List Int):List UInt8:=l.map λn=>UInt8.ofNat n.toNat
def am:Nat:=140737488355328
def oq (r:K):HM eN:=match r with
 | .own t o=>.rdc o λb=>match b with
  | .arr _ ae xs _=>.ret ⟨.list ae,xs⟩
  |_=>.fail
 | .view t o aQ E=>.rdc o λb=>match b with
  | .arr _ ae xs _=>bif decide (ae=t) then .ret ⟨.list ae,(xs.take E).drop aQ⟩ else .fail
  |_=>.fail
 | .dat .str d=>.ret ⟨.list (.int .u8),j8 d⟩
 |r=>hn r
def PA (cx:cj) (T:bq):Bool:=match cx.ti T with
 |some j=>decide (j.ty=.str)
 |none=>false
def lenOf (r:K):HM Nat:=match r with
 | .dat (.list _) xs=>.ret xs.length
 | .dat .str xs=>.ret xs.length
 | .clip _ xs=>.ret xs.length
 | .nils _ _=>.ret 0
 | .own t o=>.rdc o λb=>match b with
  | .arr _ _ xs _=>.ret xs.length
  |_=>.fail
 | .view _ _ aQ E=>.ret (E-aQ)
 |_=>.fail
def Bn (op:BinOp) (k:IntKind) (a b:Int):HM K:=
 match op with
 | .add=>.ret (.dat (.int k) (k.wrap (a+b)))
 | .sub=>.ret (.dat (.int k) (k.wrap (a-b)))
 | .mul=>.ret (.dat (.int k) (k.wrap (a*b)))
 | .quo=>.br (decide (b=0)) .fail (.ret (.dat (.int k) (k.wrap (a.tdiv b))))
 | .rem=>.br (decide (b=0)) .fail (.ret (.dat (.int k) (a.tmod b)))
 | .and=>.ret (.dat (.int k) (k.wrap (BitVec.ofInt k.bits a &&& BitVec.ofInt k.bits b).toNat))
 | .or=>.ret (.dat (.int k) (k.wrap (BitVec.ofInt k.bits a ||| BitVec.ofInt k.bits b).toNat))
 | .xor=>.ret (.dat (.int k) (k.wrap (BitVec.ofInt k.bits a ^^^ BitVec.ofInt k.bits b).toNat))
 | .andNot=>.ret (.dat (.int k) (k.wrap (BitVec.ofInt k.bits a &&& ~~~(BitVec.ofInt k.bits b)).toNat))
 | .eql=>.ret (.dat .bool (decide (a=b)))
 | .neq=>.ret (.dat .bool (!decide (a=b)))
 | .lss=>.ret (.dat .bool (decide (a<b)))
 | .leq=>.ret (.dat .bool (decide (a<=b)))
 | .gtr=>.ret (.dat .bool (decide (a>b)))
 | .geq=>.ret (.dat .bool (decide (a>=b)))
 |_=>.fail
def GP (op:BinOp) (k:IntKind) (a b:Int):HM K:=
 match op with
 | .shl=>.br (decide (b<0)) .fail (.ret (.dat (.int k) (k.wrap (a*2^(min b.toNat k.bits)))))
 | .shr=>.br (decide (b<0)) .fail (.ret (.dat (.int k) (a.fdiv (2^(min b.toNat k.bits)))))
 |_=>.fail
def PV (op:BinOp) (x y:List UInt8):HM K:=
 match op with
 | .add=>.chk (decide (x.length+y.length<=am)) (.ret (.dat .str (x++y)))
 | .eql=>.ret (.dat .bool (decide (x=y)))
 | .neq=>.ret (.dat .bool (!decide (x=y)))
 | .lss=>.ret (.dat .bool (Op.bytesLess x y))
 | .leq=>.ret (.dat .bool (Op.bytesLess x y||decide (x=y)))
 | .gtr=>.ret (.dat .bool (!(Op.bytesLess x y||decide (x=y))))
 | .geq=>.ret (.dat .bool (!(Op.bytesLess x y)))
 |_=>.fail
def cj.isTy (cx:cj) (T:bq) (t:aB):Bool:=match cx.ti T with
 |some i=>decide (i.ty=t)
 |none=>false
def cj.isTyO (cx:cj) (T:bq) (t:Option aB):Bool:=match t with
 |some t=>cx.isTy T t
 |none=>false
def PR (cx:cj) (op:BinOp) (T:bq) (x y:K):HM K:=
 match x,y with
 | .dat (.int k) a,.dat (.int eB) b=>match op with
  | .shl=>GP op k a b
  | .shr=>GP op k a b
  |_=>bif decide (k=eB) then Bn op k a b else .fail
 | .dat .str a,.dat .str b=>PV op a b
 | .dat (.int k) a,.atl m=>match op with
  | .gtr=>bif decide (k=.i64) then .chk (decide (a<=(m:Int))) (.ret (.dat .bool false)) else .fail
  |_=>.fail
 | .dat .bool a,.dat .bool b=>bif cx.isTy T .bool then match op with
  | .eql=>.ret (.dat .bool (a==b))
  | .neq=>.ret (.dat .bool (!(a==b)))
  |_=>.fail
  else .fail
 |x,y=>match cx.ti T with
  |some i=>bif i.cmp&&i.ty.cmp&&i.ty.isAgg then (w4 i.ty x).bind λa=>(w4 i.ty y).bind λb=>match op with
    | .eql=>.ret (.dat .bool (i.ty.eqb a b))
    | .neq=>.ret (.dat .bool (!(i.ty.eqb a b)))
    |_=>.fail
   else .fail
  |none=>.fail
def PT (cx:cj) (op:BinOp) (T:bq) (x:K):HM K:=match cx.ti T with
 |some i=>bif i.nil then (match x,op with
  | .iface _ _,.eql=>.ret (.dat .bool false)
  | .iface _ _,.neq=>.ret (.dat .bool true)
  | .nilI,.eql=>.ret (.dat .bool true)
  | .nilI,.neq=>.ret (.dat .bool false)
  |_,_=>.fail) else .fail
 |none=>.fail
def vV:List (String×Nat)->String->Option Nat
 |[],_=>none
 |(n,f)::l,nm=>bif n==nm then some f else vV l nm
def Lf (op:UnOp) (x:K):HM K:=match op,x with
 | .neg,.dat (.int k) a=>.ret (.dat (.int k) (k.wrap (0-a)))
 | .not,.dat .bool a=>.ret (.dat .bool (!a))
 | .xor,.dat (.int k) a=>.ret (.dat (.int k) (k.wrap (BitVec.ofInt k.bits (if k.signed then-1 else k.max) ^^^ BitVec.ofInt k.bits a).toNat))
 |_,_=>.fail
def K.isStr:K->Bool
 | .dat .str _=>true |_=>false
def Pp (cx:cj) (S T:bq) (x:K):HM K:=match cx.ti S,cx.ti T with
 |some i,some j=>match i.ty,j.ty with
  | .int _,.int k=>match x with
   | .dat (.int _) a=>.ret (.dat (.int k) (k.wrap a))
   |_=>.fail
  | .str,.str=>match x with
   | .dat .str a=>.ret (.dat .str a)
   |_=>.fail
  | .str,.list (.int .u8)=>match x with
   | .dat .str a=>.chk (decide (a.length<=am)) (.nw (.arr j.elem (.int .u8) (j8 a) false) λo=>.ret (.own (.int .u8) o))
   |_=>.fail
  | .list (.int .u8),.str=>bif x.isStr then .fail else (oq x).bind λI=>(HM.ofOpt (I.t.cast? (.list (.int .u8)) I.x)).bind λl=>.ret (.dat .str (uf l))
  |_,_=>.fail
 |_,_=>.fail
def uU:K->Option Int
 | .dat (.int _) a=>some a
 |_=>none
def mB:K->Option Bool
 | .dat .bool a=>some a
 |_=>none
def xF:Option K->Option (Option Int)
 |none=>some none
 |some r=>(uU r).map some
def OO (cx:cj) (T:bq) (x:K) (aQ E fQ:Option Int):HM K:=
 match x with
 | .dat .str d=>match fQ with
  |some _=>.fail
  |none=>bif cx.isTy T .str then
   .chk (decide (0<=aQ.getD 0)&&decide (aQ.getD 0<=E.getD (d.length:Int))&&decide (E.getD (d.length:Int)<=(d.length:Int))) (.ret (.dat .str ((d.take (E.getD (d.length:Int)).toNat).drop (aQ.getD 0).toNat)))
   else .fail
 | .own t o=>match fQ with
  |some m=>match E with
   |none=>.fail
   |some h=>bif cx.isTy T (.list t) then .rdc o λb=>match b with
    | .arr _ ae xs _=>bif decide (ae=t) then
     .chk (decide (0<=aQ.getD 0)&&decide (aQ.getD 0<=h)&&decide (h<=m)&&decide (m<=(xs.length:Int))) (.ret .undef)
     else .fail
    |_=>.fail
    else .fail
  |none=>bif cx.isTy T (.list t) then .rdc o λb=>match b with
   | .arr _ ae xs _=>bif decide (ae=t) then
    .chk (decide (0<=aQ.getD 0)&&decide (aQ.getD 0<=E.getD (xs.length:Int))&&decide (E.getD (xs.length:Int)<=(xs.length:Int))) (.ret (.view t o (aQ.getD 0).toNat (E.getD (xs.length:Int)).toNat))
    else .fail
   |_=>.fail
   else .fail
 | .view t o a z=>match fQ with
  |some _=>.fail
  |none=>bif cx.isTy T (.list t) then .rdc o λb=>match b with
   | .arr _ ae xs _=>bif decide (ae=t) then
    .chk (decide (0<=aQ.getD 0)&&decide (aQ.getD 0<=E.getD ((z-a:Nat):Int))&&decide (E.getD ((z-a:Nat):Int)<=((xs.length-a:Nat):Int))) (.ret (.view t o (a+(aQ.getD 0).toNat) (a+(E.getD ((z-a:Nat):Int)).toNat)))
    else .fail
   |_=>.fail
   else .fail
 | .nils e t=>match fQ with
  |some _=>.fail
  |none=>bif cx.isTy T (.list t) then .chk (decide (aQ.getD 0=0)&&decide (E.getD 0=0)) (.ret (.nils e t)) else .fail
 |x=>(hn x).bind λI=>match I with
  |⟨.list t,xs⟩=>bif cx.isTy T (.list t) then
   match fQ with
   |none=>.chk (decide (0<=aQ.getD 0)&&decide (aQ.getD 0<=E.getD (xs.length:Int))&&decide (E.getD (xs.length:Int)<=(xs.length:Int))) (.ret (.dat (.list t) ((xs.take (E.getD (xs.length:Int)).toNat).drop (aQ.getD 0).toNat)))
   |some m=>match E with
    |some h=>.chk (decide (0<=aQ.getD 0)&&decide (aQ.getD 0<=h)&&decide (h<=(xs.length:Int))&&decide (h=m)) (.ret (.clip t ((xs.take h.toNat).drop (aQ.getD 0).toNat)))
    |none=>.fail
   else .fail
  |_=>.fail
def Pg (cx:cj) (T:bq) (x:K) (aQ E fQ:Option Int):HM K:=
 match x,aQ,E,fQ with
 | .clip t xs,none,some h,none=>bif cx.isTy T (.list t) then .chk (decide (0<=h)&&decide (h<=(xs.length:Int))) (.ret (.lim t (xs.take h.toNat) xs.length)) else .fail
 |x,aQ,E,fQ=>OO cx T x aQ E fQ
def uW {α:Type} (k:Nat) (f:Nat->HM α):Nat->HM α
 |0=>.fail
 |n+1=>.br (Nat.beq k n) (f n) (uW k f n)
def M6 (cx:cj) (T:bq) (x:K) (i:Int):HM K:=
 match x with
 | .own t o=>bif cx.isTy T (.list t) then .rdc o λb=>match b with
  | .arr _ ae xs _=>bif decide (ae=t) then .chk (decide (0<=i)&&decide (i<(xs.length:Int))) (.ret (.ptr o t i.toNat [])) else .fail
  |_=>.fail
  else .fail
 | .view t o aQ E=>bif cx.isTy T (.list t) then .chk (decide (0<=i)&&decide (i<((E-aQ:Nat):Int))) (.ret (.ptr o t (aQ+i.toNat) [])) else .fail
 | .ptr o t j p=>bif cx.isTyO T (t.at_ p) then match cx.ti T with
  |some ti=>bif ti.arr&&ti.ty.isAgg then .chk (decide (0<=i)&&decide (i<(ti.fields.length:Int))) (uW i.toNat (λk=>.ret (.ptr o t j (p++[k]))) ti.fields.length) else .fail
  |none=>.fail
  else .fail
 | .fptr t v=>bif cx.isTy T t then match cx.ti T with
  |some ti=>bif ti.arr&&ti.ty.isAgg then .chk (decide (0<=i)&&decide (i<(ti.fields.length:Int))) (uW i.toNat (λk=>(HM.ofOpt (t.proj v k)).bind λI=>.ret (.fptr I.t I.x)) ti.fields.length) else .fail
  |none=>.fail
  else .fail
 | .gp b off l=>match cx.ti T with
  |some ti=>bif ti.arr&&ti.ty.isAgg then .chk (decide (0<=i)&&decide (i<(ti.fields.length:Int))) (uW i.toNat (λk=>.ret (.gp b (off+ti.ty.offs k) (l.drop (ti.ty.offs k)))) ti.fields.length) else .fail
  |none=>.fail
 | .dat (.list t) xs=>bif cx.isTy T (.list t) then .chk (decide (0<=i)&&decide (i<(xs.length:Int))) (.ret (.fptr t (xs.getD i.toNat t.zero))) else .fail
 | .clip t xs=>bif cx.isTy T (.list t) then .chk (decide (0<=i)&&decide (i<(xs.length:Int))) (.ret (.fptr t (xs.getD i.toNat t.zero))) else .fail
 |_=>.fail
def O9 (cx:cj) (T:bq) (x:K) (i:Int):HM K:=match x with
 | .dat .str d=>bif cx.isTy T .str then .chk (decide (0<=i)&&decide (i<(d.length:Int))) (.ret (.dat (.int .u8) ((d.getD i.toNat 0).toNat:Int))) else .fail
 |_=>.fail
def M4 (cx:cj) (T:bq) (x:K) (f:Nat):HM K:=match cx.ti T with
 |some ti=>bif !ti.arr&&ti.ty.isAgg&&Nat.blt f ti.fields.length then match x with
  | .ptr o t j p=>bif cx.isTyO T (t.at_ p) then .ret (.ptr o t j (p++[f])) else .fail
  | .fptr t v=>bif cx.isTy T t then (HM.ofOpt (t.proj v f)).bind λI=>.ret (.fptr I.t I.x) else .fail
  |_=>.fail
  else .fail
 |none=>.fail
def O0 (cx:cj) (T:bq) (x:K) (f:Nat):HM K:=match cx.ti T with
 |some i=>bif !i.arr&&i.ty.isAgg&&Nat.blt f i.fields.length&&x.fits i.ty then HM.ofOpt (x.comp f) else .fail
 |none=>.fail
def aei:Option Nat->K
 |some f=>.fn f [] [] |none=>.nilF
def A5 (cx:cj) (T:bq) (a:K):HM K:=match a with
 | .gp _ _ l=>bif cx.isTy T .opq then (HM.ofOpt l.head?).bind λx=>.ret (aei x) else .fail
 | .fptr t v=>bif cx.isTy T t then .ret (.dat t v) else .fail
 | .ptr o d i p=>bif cx.isTyO T (d.at_ p) then .rdc o λb=>match b with
  | .arr _ t xs _=>bif decide (d=t) then (HM.ofOpt (eN.at_ ⟨t,xs.getD i t.zero⟩ p)).bind λI=>.ret (.dat I.t I.x) else .fail
  | .box _ t r=>bif decide (d=t) then HM.ofOpt (r.atPath p) else .fail
  |_=>.fail
  else .fail
 |_=>.fail
def Bq (v:K):HM K:=match v with
 | .view ..=>(hn v).bind λI=>.ret (.dat I.t I.x)
 | .clip t xs=>.ret (.dat (.list t) xs)
 |v=>.ret v
def Pj (cx:cj) (T:bq) (a v:K):HM K:=match a with
 | .ptr o d i p=>bif cx.isTyO T (d.at_ p) then .rdc o λb=>match b with
  | .arr _ _ _ _=>(hn v).bind λI=>.rdw o λb=>match b with
   | .arr e t xs fz=>bif decide (d=t)&& !fz&&cx.isTy T I.t then
     (HM.ofOpt (t.setAt (xs.getD i t.zero) p I)).bind λy=>.wr o (.arr e t (xs.set i y) false) (.ret .undef)
    else .fail
   |_=>.fail
  | .box _ _ _=>(Bq v).bind λv=>.rdw o λb=>match b with
   | .box U t r=>bif decide (d=t) then match t.at_ p with
    |some ae=>bif v.fits ae then (HM.ofOpt (r.setPath p v)).bind λgT=>.wr o (.box U t gT) (.ret .undef) else .fail
    |none=>.fail
    else .fail
   |_=>.fail
  |_=>.fail
  else .fail
 |_=>.fail
def Bh (cx:cj) (T:bq) (v:K):HM K:=match cx.ti T with
 |some i=>(Bq (cx.typ T v)).bind λv=>bif v.fits i.ty then .nw (.box T i.ty v) λo=>.ret (.ptr o i.ty 0 []) else .fail
 |none=>.fail
def O4 (cx:cj) (T:bq):HM K:=match cx.zeroRV 20 T with
 |some v=>Bh cx T v
 |none=>.fail
def AP (cx:cj) (T:bq) (parts:List (Nat×K)):HM K:=match cx.ti T,cx.zeroRV 20 T with
 |some i,some (.agg l)=>go i l parts
 |_,_=>.fail
where
 go (i:gl):List K->List (Nat×K)->HM K
  |l,[]=>.ret (.agg l)
  |l,(j,v)::r=>match i.fields[j]?,i.ty.nth j with
   |some U,some ae=>(Bq (cx.typ U v)).bind λv=>bif v.fits ae then go i (l.set j v) r else .fail
   |_,_=>.fail
def DQ (cx:cj) (T:bq) (len:Nat) (parts:List (Nat×K)):HM K:=match cx.ti T with
 |some i=>match i.ty with
  | .list t=>bif Nat.ble (len*t.size) 100000 then (go t (List.replicate len t.zero) parts).bind λxs=>.nw (.arr i.elem t xs false) λo=>.ret (.own t o) else .fail
  |_=>.fail
 |none=>.fail
where
 go (t:aB):List t.den->List (Nat×K)->HM (List t.den)
  |xs,[]=>.ret xs
  |xs,(j,v)::r=>match xs[j]? with
   |some _=>(w4 t v).bind λy=>go t (xs.set j y) r
   |none=>.fail
def M8 (cx:cj) (T:bq) (n c:Int):HM K:=match cx.ti T with
 |some i=>match i.ty with
  | .list t=>.chk (decide (0<=n)&&decide (n<=c)&&decide (c*i.bytes<=(am:Int))) (.nw (.arr i.elem t (List.replicate n.toNat t.zero) false) λo=>.ret (.own t o))
  |_=>.fail
 |none=>.fail
def qO (cx:cj) (T:bq):Bool:=match cx.ti T with
 |some j=>match j.ty with
  | .list _=>true
  | .str=>true
  |_=>false
 |none=>false
def U2 (x:K) (o:Nat):Bool:=match x with
 | .view _ dV _ _=>Nat.beq dV o
 |_=>false
def O5 (cx:cj) (T dX:bq) (d x:K):HM K:=match d,x with
 | .nils _ _,.dat (.int k) n=>bif cx.isTy dX (.int k) then match cx.ti T with
  |some i=>match i.ty with
   | .list t=>.chk (decide (0<n)&&decide (n*i.bytes<=(am:Int))) (.nw (.arr i.elem t (List.replicate n.toNat t.zero) false) λo=>.ret (.own t o))
   |_=>.fail
  |none=>.fail
  else .fail
 |_,_=>.fail
def Pn (cx:cj) (T dX:bq) (d x:K):HM K:=match d,x with
 | .lim ae xs c,.dat (.int k) n=>bif cx.isTy dX (.int k) then match cx.ti T with
  |some i=>match i.ty with
   | .list t=>(HM.ofOpt (ae.list.cast? t.list xs)).bind λxs=>.chk (decide (0<n)&&decide ((c:Int)<xs.length+n)&&decide ((xs.length+n)*i.bytes<=(am:Int))) (.nw (.arr i.elem t (xs++List.replicate n.toNat t.zero) false) λo=>.ret (.own t o))
   |_=>.fail
  |none=>.fail
  else .fail
 |d,x=>O5 cx T dX d x
def Oy (cx:cj) (T dX:bq) (d x:K):HM K:=bif qO cx dX then match cx.ti T with
 |some i=>match i.ty with
  | .list t=>(oq x).bind λI=>(HM.ofOpt (I.t.cast? (.list t) I.x)).bind λaZ=>match d with
   | .nils _ _=>.chk (decide (aZ.length*i.bytes<=am)) (.nw (.arr i.elem t aZ false) λo=>.ret (.own t o))
   | .own _ o=>.rdw o λb=>match b with
    | .arr e ae xs fz=>(HM.ofOpt (ae.list.cast? t.list xs)).bind λxs=>bif Nat.beq e i.elem then
      .chk (decide ((xs.length+aZ.length)*i.bytes<=am)) (.wr o .gone (.nw (.arr e t (xs++aZ) fz) λo=>.ret (.own t o)))
     else .fail
    |_=>.fail
   | .view _ o 0 E=>bif U2 x o then .rdw o λb=>match b with
    | .arr e ae xs fz=>(HM.ofOpt (ae.list.cast? t.list xs)).bind λxs=>bif Nat.beq e i.elem&& !fz then
      .chk (decide (E+aZ.length<=xs.length)) (.wr o (.arr e t (xs.take E++aZ++xs.drop (E+aZ.length)) false) (.ret (.view t o 0 (E+aZ.length))))
     else .fail
    |_=>.fail
    else .rdw o λb=>match b with
    | .arr e ae xs fz=>(HM.ofOpt (ae.list.cast? t.list xs)).bind λxs=>bif Nat.beq e i.elem&& !fz then
      .chk (decide (((xs.take E).length+aZ.length)*i.bytes<=am)) (.wr o .gone (.nw (.arr e t (xs.take E++aZ) false) λo=>.ret (.own t o)))
     else .fail
    |_=>.fail
   | .clip ae xs=>(HM.ofOpt (ae.list.cast? t.list xs)).bind λxs=>
      .chk (decide (0<aZ.length)&&decide ((xs.length+aZ.length)*i.bytes<=am)) (.nw (.arr i.elem t (xs++aZ) false) λo=>.ret (.own t o))
   |_=>.fail
  |_=>.fail
 |none=>.fail
 else Pn cx T dX d x
def xt (fQ:Bool):K->List K->HM K
 |x,[]=>.ret x
 | .dat (.int k) a,.dat (.int eB) b::l=>bif decide (k=eB) then xt fQ (.dat (.int k) (if (if fQ then a<b else b<a) then b else a)) l else .fail
 | .dat .str a,.dat .str b::l=>
  xt fQ (.dat .str (bif (bif fQ then !(Op.bytesLess a b) else (Op.bytesLess a b||decide (a=b))) then a else b)) l
 |_,_=>.fail
def Pq (cx:cj) (T:bq) (I d:K):HM K:=match I with
 | .own t o=>bif cx.isTy T (.list t) then (oq d).bind λe=>.rdw o λb=>match b with
  | .arr f ae xs fz=>(HM.ofOpt (e.t.cast? (.list ae) e.x)).bind λaZ=>bif decide (ae=t)&& !fz then
    .wr o (.arr f ae (xs.take 0++aZ.take xs.length++xs.drop (0+(aZ.take xs.length).length)) false) (.ret (.dat (.int .i64) ((aZ.take xs.length).length:Int))) else .fail
  |_=>.fail
  else .fail
 | .view t o aQ E=>bif cx.isTy T (.list t) then (oq d).bind λe=>.rdw o λb=>match b with
  | .arr f ae xs fz=>(HM.ofOpt (e.t.cast? (.list ae) e.x)).bind λaZ=>bif decide (ae=t)&& !fz then
    .wr o (.arr f ae (xs.take aQ++aZ.take (E-aQ)++xs.drop (aQ+(aZ.take (E-aQ)).length)) false) (.ret (.dat (.int .i64) ((aZ.take (E-aQ)).length:Int))) else .fail
  |_=>.fail
  else .fail
 |_=>.fail
def OT (cx:cj) (T:bq) (I:K):HM K:=match I with
 | .own t o=>bif cx.isTy T (.list t) then .rdw o λb=>match b with
  | .arr e ae xs fz=>bif decide (ae=t)&& !fz then .wr o (.arr e ae (xs.take 0++List.replicate xs.length ae.zero++xs.drop (0+xs.length)) false) (.ret (.tup [])) else .fail
  |_=>.fail
  else .fail
 | .view t o aQ E=>bif cx.isTy T (.list t) then .rdw o λb=>match b with
  | .arr e ae xs fz=>bif decide (ae=t)&& !fz then .wr o (.arr e ae (xs.take aQ++List.replicate (E-aQ) ae.zero++xs.drop (aQ+(E-aQ))) false) (.ret (.tup [])) else .fail
  |_=>.fail
  else .fail
 | .nils _ _=>.ret (.tup [])
 |_=>.fail
def oS (d:List UInt8) (pos:Int):Int×Int:=(((Utf8.decode ⟨⟨d⟩⟩ pos.toNat).1:Int),((Utf8.decode ⟨⟨d⟩⟩ pos.toNat).2:Int))
def O7 (cx:cj) (T:bq) (x:K):HM K:=match x with
 | .dat .str d=>bif cx.isTy T .str then .nw (.iter d 0) λo=>.ret (.ptr o .unit 0 []) else .fail
 |_=>.fail
def PD (x:K):HM K:=match x with
 | .ptr o .unit 0 []=>.rdw o λb=>match b with
  | .iter d pos=>.br (decide (pos<(d.length:Int))) (.wr o (.iter d (pos+(oS d pos).2)) (.ret (.tup [.dat .bool true,.dat (.int .i64) pos,.dat (.int .i32) (oS d pos).1]))) (.ret (.tup [.dat .bool false]))
  |_=>.fail
 |_=>.fail
def PS (cx:cj) (T:bq) (x:K):HM K:=match x with
 | .nils _ t=>bif cx.isTy T (.list t) then .ret (.dat (.int .i64) (0:Int)) else .fail
 | .clip t xs=>bif cx.isTy T (.list t) then .ret (.dat (.int .i64) (xs.length:Int)) else .fail
 | .own t o=>bif cx.isTy T (.list t) then .rdc o λb=>match b with
  | .arr _ ae xs _=>.ret (.atl xs.length)
  |_=>.fail
  else .fail
 | .view t o aQ E=>bif cx.isTy T (.list t) then .rdc o λb=>match b with
  | .arr _ ae xs _=>.ret (.atl (xs.length-aQ))
  |_=>.fail
  else .fail
 |_=>.fail
def Oi (cx:cj) (b:Builtin) (hE:List bq) (args:List K):HM K:=
 match b,hE,args with
 | .len,[T],[x]=>bif qO cx T&&(PA cx T==x.isStr) then (lenOf x).bind λn=>.ret (.dat (.int .i64) (n:Int)) else .fail
 | .append,[T,dX],[d,x]=>Oy cx T dX d x
 | .min,_,x::l=>xt false x l
 | .max,_,x::l=>xt true x l
 | .clear,[T],[x]=>bif qO cx T then OT cx T x else .fail
 | .copy,[T,dX],[I,d]=>bif qO cx dX then Pq cx T I d else .fail
 | .cap,[T],[x]=>PS cx T x
 |_,_,_=>.fail
mutual
def K.ids:K->List Nat
 | .own _ o=>[o] | .view _ o _ _=>[o] | .ptr o _ _ _=>[o] | .yld _ o=>[o]
 | .agg l=>K.idsL l | .tup l=>K.idsL l | .fn _ a b=>K.idsL a++K.idsL b | .iface _ r=>r.ids | .dfr _ a b _ _=>K.idsL a++K.idsL b
 |_=>[]
def K.idsL:List K->List Nat
 |[]=>[] |r::l=>r.ids++K.idsL l
end
mutual
def K.ren (ρ:Nat->Nat):K->K
 | .own t o=>.own t (ρ o)| .view t o a b=>.view t (ρ o) a b | .ptr o t i p=>.ptr (ρ o) t i p | .yld Y o=>.yld Y (ρ o)
 | .agg l=>.agg (K.renL ρ l)| .tup l=>.tup (K.renL ρ l)| .fn f a b=>.fn f (K.renL ρ a) (K.renL ρ b)| .iface T r=>.iface T (r.ren ρ)| .dfr f a b t xs=>.dfr f (K.renL ρ a) (K.renL ρ b) t xs
 |r=>r
def K.renL (ρ:Nat->Nat):List K->List K
 |[]=>[] |r::l=>r.ren ρ::K.renL ρ l
end
def bR.ids:bR->List Nat
 |[]=>[] |(_,r)::l=>r.ids++bR.ids l
def bR.ren (ρ:Nat->Nat):bR->bR
 |[]=>[] |(I,r)::l=>(I,r.ren ρ)::bR.ren ρ l
def aG.ids:aG->List Nat
 | .box _ _ r=>r.ids | .loop _ R _=>bR.ids R |_=>[]
def aG.ren (ρ:Nat->Nat):aG->aG
 | .box T t r=>.box T t (r.ren ρ)| .loop Y R p=>.loop Y (bR.ren ρ R) p |b=>b
def idx (l:List Nat) (o:Nat):Nat:=go l 0
where
 go:List Nat->Nat->Nat
  |[],n=>n
  |a::l,n=>bif Nat.beq a o then n else go l (n+1)
def has (l:List Nat) (o:Nat):Bool:=match l with
 |[]=>false
 |a::l=>Nat.beq a o||has l o
def lr:Nat->List Nat->List Nat->List aG->HM (List Nat×List aG)
 |0,_,_,_=>.fail
 |_+1,[],done,obs=>.ret (done,obs)
 |n+1,o::todo,done,obs=>bif has done o then lr n todo done obs
  else .rdw o λb=>lr n (todo++b.ids) (done++[o]) (obs++[b])
abbrev hM:=FuncId->List K->List aG->DT (K×List aG)
def GS (r:K):HM K:=match r with
 | .agg l=>(uS l).bind λI=>.ret (.dat I.t I.x)
 | .own t o=>(hn (.own t o)).bind λI=>.ret (.dat I.t I.x)
 | .view t o a b=>(hn (.view t o a b)).bind λI=>.ret (.dat I.t I.x)
 | .nils _ t=>.ret (.dat (.list t) [])
 | .clip t xs=>.ret (.dat (.list t) xs)
 |r=>.ret r
def A9 (cx:cj) (f:FuncId):Nat->List K->HM (List K)
 |_,[]=>.ret []
 |j,r::l=>(bif cx.rawArg f j then .ret r else GS r).bind λgT=>(A9 cx f (j+1) l).bind λfF=>.ret (gT::fF)
def rX (ρ:Nat->Nat):List Nat->List aG->HM Unit
 |[],[]=>.ret ()
 |[],b::l=>.nw (b.ren ρ) λ_=>rX ρ [] l
 |o::os,b::l=>.wr o (b.ren ρ) (rX ρ os l)
 |_::_,[]=>.fail
def rY (cx:cj) (Γ:hM) (f:FuncId) (args:List K):HM K:=
 (A9 cx f 0 args).bind λargs=>(lr 200 (K.idsL args) [] []).bind λ(done,obs)=>
  (HM.ofDT (Γ f (K.renL (idx done) args) (obs.map (aG.ren (idx done))))).bind λ(r,awM)=>
   .nxt λn=>(rX (λi=>done.getD i (n+(i-done.length))) done awM).bind λ_=>
    .ret (r.ren (λi=>done.getD i (n+(i-done.length))))
def je (cx:cj):List bq->List K->List K
 |T::hE,r::l=>cx.typ T r::je cx hE l
 |_,l=>l
def PK (y:Operand):Bool:=match y with
 | .const .nilIface=>true
 |_=>false
structure np where
 params:List Nat
 assign:Code
 body:Code
 nt:Nat
class Env where
 code:Nat->Option np
 glob:Nat->List (Option Nat)
section
variable [Env]
def jv (f:Nat):Bool:=(Env.code f).isSome
def nu (cx:cj) (Γ:hM) (o:Oper) (db:Operand->K):HM K:=
 match o.op with
 | .move x=>.ret (cx.typ o.type (db x))
 | .assign x=>.ret (cx.typ o.type (db x))
 | .pick c a b=>match mB (db c) with
  |some t=>.br t (.ret (db a)) (.ret (db b))
  |none=>.fail
 | .alloc T=>O4 cx T
 | .box T x=>Bh cx T (db x)
 | .build T ps=>AP cx T (ps.toList.map λp=>(p.1,db p.2))
 | .buildSlice T n ps=>DQ cx T n (ps.toList.map λp=>(p.1,db p.2))
 | .load T a=>A5 cx T (db a)
 | .store T a x=>Pj cx T (db a) (cx.typ T (db x))
 | .nilCheck x=>match db x with
  | .ptr o t i p=>.ret (.ptr o t i p)
  | .fptr t x=>.ret (.fptr t x)
  |_=>.fail
 | .binOp b T x y _=>bif PK y then PT cx b T (db x) else PR cx b T (db x) (db y)
 | .unOp b _ x=>Lf b (db x)
 | .convert S T x=>Pp cx S T (db x)
 | .makeFunc (.func f) a b=>.ret (.fn f (a.toList.map db) (b.toList.map db))
 | .makeInterface T x=>match cx.ti T with
  |some i=>bif decide (i.ty=.opq) then .fail else .ret (.iface T (db x))
  |none=>.fail
 | .makeSlice T l c=>match uU (db l),uU (db c) with
  |some l,some c=>M8 cx T l c
  |_,_=>.fail
 | .slice T x aQ E fQ=>match xF (aQ.map db),xF (E.map db),xF (fQ.map db) with
  |some l,some h,some m=>Pg cx T (db x) l h m
  |_,_,_=>.fail
 | .fieldAddr T x f=>M4 cx T (db x) f
 | .field T x f=>O0 cx T (db x) f
 | .indexAddr T x i=>match uU (db i) with
  |some i=>M6 cx T (db x) i
  |none=>.fail
 | .index T x i=>match uU (db i) with
  |some i=>O9 cx T (db x) i
  |none=>.fail
 | .range T x=>O7 cx T (db x)
 | .next x b=>bif b then PD (db x) else .fail
 | .extract x j=>match db x with
  | .tup l=>HM.ofOpt l[j]?
  |_=>.fail
 | .call c=>match c.callee with
  | .builtin b=>Oi cx b c.argTypes.toList (je cx c.argTypes.toList (c.args.toList.map db))
  | .value f=>match db f with
   | .fn g first lF=>bif jv g then .fail else rY cx Γ g (first++je cx c.argTypes.toList (c.args.toList.map db)++lF)
   | .yld Y o=>bif jv Y then rY cx Γ Y (.yld Y o::je cx c.argTypes.toList (c.args.toList.map db)) else .fail
   |_=>.fail
  | .invoke x nm=>match db x with
   | .iface T r=>match cx.ti T with
    |some i=>match vV i.meths nm with
     |some f=>bif jv f then .fail else rY cx Γ f (r::je cx c.argTypes.toList (c.args.toList.map db))
     |none=>.fail
    |none=>.fail
   |_=>.fail
 |_=>.fail
def dJ:Nat:=1000000000
def h1 (R:bR):Operand->K
 | .tmp t=>bif Nat.beq t dJ then .undef else (R.get t).getD .undef
 | .const v=>GD v
 | .func f=>.fn f [] []
 | .global g=>match Env.glob g with
  |[]=>.undef
  |l=>.gp g 0 l
def Ag (b:Bool) (want:Bool):Bool:=match want with |true=>b |false=> !b
def lY (R:bR) (I:Option Tmp) (r:K):bR:=match I with
 |some I=>R.put I r
 |none=>R
def refine (R:bR) (I:Nat) (b:Bool):bR:=R.put I (.dat .bool b)
def uK (cx:cj) (Γ:hM) (o:Oper) (st:bU) (nx:Nat):DT (bU×Nat×dj):=
 ((nu cx Γ o (h1 st.regs)).run st.heap nx .none).bind λ(r,h,n,p)=>.leaf (⟨lY st.regs o.dst r,h⟩,n,p)
def qo (cx:cj) (Γ:hM) (ops:Array Oper) (o:Oper) (st:bU) (nx:Nat):DT (bU×Nat×dj):=
 match o.guard with
 |none=>uK cx Γ o st nx
 |some (j,want)=>match (ops[j]?).bind (·.dst) with
  |some I=>match (st.regs.get I).bind mB with
   |some b=>.br (Ag b want) (uK cx Γ o ⟨refine st.regs I want,st.heap⟩ nx) (.leaf (⟨lY (refine st.regs I (!want)) o.dst (.tup []),st.heap⟩,nx,.none))
   |none=>match st.regs.get I with
    |some (.tup [])=>.leaf (⟨lY st.regs o.dst (.tup []),st.heap⟩,nx,.none)
    |_=>.fail
  |none=>.fail
def uY:List K->List K->Bool
 |[],[]=>true
 | .ptr o t i p::l,.ptr dV iJ rp hp::m=>Nat.beq o dV&&decide (t=iJ)&&Nat.beq i rp&&decide (p=hp)&&uY l m
 |_,_=>false
def ua (o:Nat) (t:aB) (x:t.den):bR->bR
 |[]=>[]
 |(I,.ptr dV iJ i p)::l=>(I,bif Nat.beq o dV&&decide (t=iJ)&&Nat.beq i 0&&p.isEmpty then .fptr t x else .ptr dV iJ i p)::ua o t x l
 |(I,r)::l=>(I,r)::ua o t x l
def OW (c:Call) (o:Oper) (st:bU):DT bU:=
 match c.callee,c.args.toList,o.dst,o.guard,st.regs.get dJ with
 | .value f,[],none,none,some (.dfr g a b t xs)=>match h1 st.regs f with
  | .fn Qy [] lF=>match lF.drop a.length with
   | .ptr p ae 0 []::bX=>bif Nat.beq g Qy&&uY (lF.take a.length) a&&uY bX b then
     match aF st.heap p with
     | .box _ iU (.dat v x)=>bif decide (ae=t)&&decide (iU=t) then .opt (v.cast? t x) λx=>.leaf ⟨(ua p t x st.regs).put dJ (.dfr g a b t (x::xs)),b8 st.heap p .gone⟩ else .fail
     |_=>.fail
    else .fail
   |_=>.fail
  |_=>.fail
 |_,_,_,_,_=>.fail
def oO (cx:cj) (Γ:hM) (ops:Array Oper):List Oper->bU->DT bU
 |[],st=>.leaf st
 |o::l,st=>(match o.op with
  | .defer c=>OW c o st
  |_=>(qo cx Γ ops o st st.heap.length).bind λ(bb,_,_)=>.leaf bb).bind λbb=>oO cx Γ ops l bb
structure nn where
 dst:List Nat
 uses:List Nat
 fp:dj
def rU (ops:Array Oper) (o:Oper):List Nat:=o.looksAt ops
def o3:List Nat->List Nat->Bool
 |[],_=>true
 |a::l,m=> !has m a&&o3 l m
def nn.apart (a b:nn):Bool:=
 o3 a.dst b.uses&&o3 a.dst b.dst&&o3 a.uses b.dst&&
 o3 a.fp.wr b.fp.rd&&o3 a.fp.wr b.fp.fz&&o3 a.fp.wr b.fp.wr&&o3 a.fp.rd b.fp.wr&&o3 a.fp.fz b.fp.wr
def kz (ops:List Oper):List Nat:=go ops []
where
 go:List Oper->List Nat->List Nat
  |[],acc=>acc
  |o::l,acc=>go l (acc++[o.after.toList.foldl (λm e=>bif Region.binds .any e then m ||| (1 <<< e.on) ||| acc.getD e.on 0 else m) 0])
def uJ (sB:List Nat):Nat->List nn->Bool
 |_,[]=>true
 |i,n::l=>go i n (i+1) l&&uJ sB (i+1) l
where
 go (i:Nat) (n:nn):Nat->List nn->Bool
  |_,[]=>true
  |j,m::l=>((sB.getD j 0).testBit i||n.apart m)&&go i n (j+1) l
def slotsOf:Nat:=4
def Fi (ax:Nat) (p:dj):Bool:=p.rd.all (Nat.blt · ax)&&p.fz.all (Nat.blt · ax)&&p.wr.all (Nat.blt · ax)
def xc:Nat->List Oper->Bool
 |_,[]=>true
 |i,o::l=>o.after.toList.all (λe=> !Region.binds .any e||Nat.blt e.on i)&&xc (i+1) l
def Be (cx:cj) (Γ:hM) (ops:Array Oper) (base ax:Nat):Nat->List Oper->bU->List nn->DT (bU×List nn)
 |_,[],st,Q=>.leaf (st,Q)
 |i,o::l,st,Q=>(qo cx Γ ops o st (base+slotsOf*i)).bind λ(bb,n,fp)=>
  bif Nat.ble n (base+slotsOf*i+slotsOf)&&Fi ax fp then Be cx Γ ops base ax (i+1) l bb (Q++[⟨o.dst.toList,rU ops o,fp⟩]) else .fail
def OY (cx:cj) (Γ:hM) (ops:Array Oper) (draw:Bool) (st:bU):DT bU:=
 bif draw then
  (Be cx Γ ops st.heap.length (st.heap.length+slotsOf*ops.size) 0 ops.toList ⟨st.regs,st.heap++List.replicate (slotsOf*ops.size) .hole⟩ []).bind λ(bb,Q)=>
   bif uJ (kz ops.toList) 0 Q&&xc 0 ops.toList then .leaf bb else .fail
 else oO cx Γ ops ops.toList st
inductive ef where
 |nrm |exit (id:Nat)|ret
def ub (ks:List Nat):bR->bR
 |[]=>[]
 |(I,r)::l=>bif has ks I then (I,r)::ub ks l else ub ks l
structure bn where
 cx:cj
 Γ:hM
 Λ:Nat->bU->DT (ef×bU)
 keep:Nat->Option (List Nat)
 m:Nat
 rfs:Nat->Option Nat:=λ_=>none
 its:List Nat:=[]
 dfr:Nat->Option (FuncId×List Nat×List Nat×aB):=λ_=>none
def pM:Code->Option Nat
 | .region id _ _=>some id
 | .seq a _=>pM a
 | .scope c=>pM c
 | .cond _ a _=>(pM a).map (· +100000)
 | .block _ c=>(pM c).map (· +200000)
 |_=>none
def Jm (a b:Code):Nat:=match pM a with
 |some i=>i
 |none=>(pM b).getD 0
def qN:Code->List Nat
 | .region _ ops _=>ops.toList.flatMap (rU ops)
 | .seq a b=>qN a++qN b
 | .cond c a b=>(match c with | .tmp t=>[t] |_=>[])++(qN a++qN b)
 | .block _ c=>qN c
 | .loop c=>qN c
 | .scope c=>qN c
 |_=>[]
def sj:Code->List Nat
 | .seq a b=>sj a++sj b
 | .cond _ a b=>sj a++sj b
 | .block id c=>(sj c).filter λi=> !Nat.beq i id
 | .loop c=>sj c
 | .scope c=>sj c
 | .exit i=>[i]
 |_=>[]
def nX:ef->Int
 | .nrm=>0 | .ret=>1 | .exit i=>2+(i:Int)
def Bm:List ef->Int->bU->DT (ef×bU)
 |[],_,_=>.fail
 |e::l,p,st=>.br (decide (p=nX e)) (.leaf (e,st)) (Bm l p st)
def uH (R:bR):List Nat->bR
 |[]=>[]
 |I::us=>bif has us I||Nat.beq I dJ then uH R us else match R.get I with
  |some r=>(I,r)::uH R us
  |none=>uH R us
def Bb:bR->HM bR
 |[]=>.ret []
 |(I,r)::l=>(GS r).bind λgT=>(Bb l).bind λfF=>.ret ((I,gT)::fF)
def Vi (F:bn) (Y:Nat) (f:FuncId) (lF:List K) (R:bR):HM Int:=
 (Bb R).bind λR=>.nw (.loop Y R 0) λo=>(rY F.cx F.Γ f (.yld Y o::lF)).bind λ_=>.rdw o λb=>match b with
  | .loop _ _ p=>.wr o .gone (.ret p)
  |_=>.fail
def Lg (F:bn) (Y:Nat) (g:Operand) (us Qa:List Nat) (st:bU):DT (ef×bU):=
 match h1 st.regs g with
 | .fn f [] lF=>bif has F.its f&& !jv f&&(st.regs.get dJ).isNone then
   ((Vi F Y f lF (uH st.regs us)).run st.heap st.heap.length .none).bind λ(p,h,_,_)=>Bm (.nrm:: .ret::Qa.map .exit) p ⟨st.regs,h⟩
  else .fail
 |_=>.fail
def xv (R:bR):List Nat->Option (List K)
 |[]=>some []
 |I::l=>match R.get I with
  |some r=>(xv R l).map (r:: ·)
  |none=>none
def Lc (F:bn) (id:Nat) (st:bU):DT bU:=match F.dfr id with
 |none=>.leaf st
 |some (f,us,aP,t)=>match st.regs.get dJ,xv st.regs us,xv st.regs aP with
  |some (.tup []),some a,some b=>.leaf ⟨st.regs.put dJ (.dfr f a b t []),st.heap⟩
  |_,_,_=>.fail
def gb (F:bn):Code->Nat->bU->DT (ef×bU)
 | .skip,_,st=>.leaf (.nrm,st)
 | .region id ops draw,_,st=>(OY F.cx F.Γ ops draw st).bind λst=>match F.keep id with
  |some ks=>.leaf (.nrm,⟨ub ks st.regs,st.heap⟩)
  |none=>(Lc F id st).bind λst=>.leaf (.nrm,st)
 | .seq a b,k,st=>(gb F a k st).bind λ(e,bb)=>match e with
  | .nrm=>gb F b k bb
  |e=>.leaf (e,bb)
 | .cond c a b,k,st=>match mB (h1 st.regs c) with
  |some t=>match c with
   | .tmp I=>.br t (gb F a k ⟨refine st.regs I true,st.heap⟩) (gb F b k ⟨refine st.regs I false,st.heap⟩)
   |_=>.br t (gb F a k st) (gb F b k st)
  |none=>.fail
 | .block id c,_,st=>(gb F c id st).bind λ(e,bb)=>match e with
  | .exit i=>bif Nat.beq i id then .leaf (.nrm,bb) else .leaf (.exit i,bb)
  |e=>.leaf (e,bb)
 | .loop _,k,st=>F.Λ k st
 | .rangeFunc g _ a b,_,st=>match F.rfs (Jm a b) with
  |some Y=>Lg F Y g (qN a++qN b) (sj b) st
  |none=>.fail
 | .exit id,_,st=>.leaf (.exit id,st)
 | .ret,_,st=>.leaf (.ret,st)
 | .scope c,k,st=>gb F c k st
 | .label _,_,st=>.leaf (.nrm,st)
 |_,_,_=>.fail
def fU:Nat->List K->bR
 |_,[]=>[]
 |i,r::l=>(i,r)::fU (i+1) l
def l1 (cx:cj) (R:bR):Nat->List ResultVar->HM bR
 |_,[]=>.ret []
 |j,v::l=>(match v with
   | .tmp t=>HM.ret (h1 R (.tmp t))
   | .cell a T=>A5 cx T (h1 R (.tmp a))).bind λr=>(l1 cx R (j+1) l).bind λfF=>.ret ((j,r)::fF)
def k3:Nat->List Nat
 |0=>[]
 |n+1=>k3 n++[n]
inductive cu where
 |dat (t:aB)
 |clip (t:aB)
 |own (t:aB) (o:Nat)
 |ptr (o:Nat) (t:aB) (i:Nat) (p:List Nat)
 |agg (l:List cu)
 |fn (f:FuncId) (first lF:List cu)
 |iface (T:bq) (r:cu)
 |nilI |nilF |nilP |undef
 |nils (e:bq) (t:aB)
 |yld (Y:Nat) (o:Nat)
 |dfr (f:FuncId) (a b:List cu) (t:aB)
inductive dZ where
 |arr (e:bq) (t:aB) (fz:Bool)
 |box (T:bq) (t:aB) (r:cu)
 |iter
 |gone
 |loop (Y:Nat) (R:List (Nat×cu))
structure Shape where
 regs:List (Nat×cu)
 objs:List dZ
mutual
def cu.holes:cu->List aB
 | .dat t=>[t] | .clip t=>[.list t] | .agg l=>cu.holesL l | .fn _ a b=>cu.holesL a++cu.holesL b | .iface _ r=>r.holes | .dfr _ a b t=>cu.holesL a++(cu.holesL b++[.list t])|_=>[]
def cu.holesL:List cu->List aB
 |[]=>[] |d::l=>d.holes++cu.holesL l
end
def dZ.holes:dZ->List aB
 | .arr _ t _=>[.list t] | .box _ _ r=>r.holes | .iter=>[.str,.int .i64] | .gone=>[] | .loop _ R=>R.flatMap (λp=>p.2.holes)++[.int .i64]
def chain:List aB->aB
 |[]=>.unit |t::l=>.pair t (chain l)
def Shape.ty (S:Shape):aB:=chain (S.regs.flatMap (λp=>p.2.holes)++S.objs.flatMap dZ.holes)
def mD (t:aB):List eN->Option (t.den×List eN)
 |[]=>none
 |I::l=>(I.t.cast? t I.x).map λx=>(x,l)
mutual
def cu.enc:cu->List eN->Option (K×List eN)
 | .dat t,l=>(mD t l).map λp=>(.dat t p.1,p.2)
 | .clip t,l=>(mD (.list t) l).map λp=>(.clip t p.1,p.2)
 | .own t o,l=>some (.own t o,l)
 | .ptr o t i p,l=>some (.ptr o t i p,l)
 | .agg d,l=>(cu.encL d l).map λp=>(.agg p.1,p.2)
 | .fn f a b,l=>match cu.encL a l with
  |some (bs,l)=>(cu.encL b l).map λp=>(.fn f bs p.1,p.2)
  |none=>none
 | .iface T r,l=>(r.enc l).map λp=>(.iface T p.1,p.2)
 | .dfr f a b t,l=>match cu.encL a l with
  |some (bs,l)=>match cu.encL b l with
   |some (bX,l)=>(mD (.list t) l).map λp=>(.dfr f bs bX t p.1,p.2)
   |none=>none
  |none=>none
 | .nilI,l=>some (.nilI,l)| .nilF,l=>some (.nilF,l)| .nilP,l=>some (.nilP,l)| .undef,l=>some (.undef,l)| .nils e t,l=>some (.nils e t,l)| .yld Y o,l=>some (.yld Y o,l)
def cu.encL:List cu->List eN->Option (List K×List eN)
 |[],l=>some ([],l)
 |d::r,l=>match d.enc l with
  |some (x,l)=>(cu.encL r l).map λp=>(x::p.1,p.2)
  |none=>none
end
def qt:List (Nat×cu)->List eN->Option (bR×List eN)
 |[],l=>some ([],l)
 |(I,d)::r,l=>match d.enc l with
  |some (x,l)=>(qt r l).map λp=>((I,x)::p.1,p.2)
  |none=>none
def dZ.enc:dZ->List eN->Option (aG×List eN)
 | .arr e t fz,l=>(mD (.list t) l).map λp=>(.arr e t p.1 fz,p.2)
 | .box T t r,l=>(r.enc l).map λp=>(.box T t p.1,p.2)
 | .iter,l=>match mD .str l with
  |some (d,l)=>(mD (.int .i64) l).map λp=>(.iter d p.1,p.2)
  |none=>none
 | .gone,l=>some (.gone,l)
 | .loop Y R,l=>match qt R l with
  |some (eQ,l)=>(mD (.int .i64) l).map λp=>(.loop Y eQ p.1,p.2)
  |none=>none
def xr:List dZ->List eN->Option (List aG×List eN)
 |[],l=>some ([],l)
 |d::r,l=>match d.enc l with
  |some (x,l)=>(xr r l).map λp=>(x::p.1,p.2)
  |none=>none
def Shape.enc (S:Shape) (d:S.ty.den):bU:=
 match qt S.regs (S.ty.parts d) with
 |some (R,l)=>match xr S.objs l with
  |some (J,_)=>⟨R,J⟩
  |none=>⟨[],[]⟩
 |none=>⟨[],[]⟩
mutual
def cu.dec:cu->K->Option (List eN)
 | .dat t,.dat ae x=>bif decide (ae=t) then some [⟨ae,x⟩] else none
 | .clip t,.clip ae x=>bif decide (ae=t) then some [⟨.list ae,x⟩] else none
 | .own t o,.own ae dV=>bif decide (ae=t)&&Nat.beq o dV then some [] else none
 | .ptr o t i p,.ptr dV iJ rp hp=>bif Nat.beq o dV&&decide (t=iJ)&&Nat.beq i rp&&decide (p=hp) then some [] else none
 | .agg l,.agg r=>cu.decL l r
 | .fn f a b,.fn g x y=>bif Nat.beq f g then match cu.decL a x with
   |some l=>(cu.decL b y).map λm=>l++m
   |none=>none
  else none
 | .iface T r,.iface U d=>bif Nat.beq T U then r.dec d else none
 | .dfr f a b t,.dfr g x y ae xs=>bif Nat.beq f g&&decide (ae=t) then match cu.decL a x with
   |some l=>match cu.decL b y with
    |some m=>some (l++(m++[⟨.list ae,xs⟩]))
    |none=>none
   |none=>none
  else none
 | .nilI,.nilI=>some [] | .nilF,.nilF=>some [] | .nilP,.nilP=>some [] | .undef,.undef=>some []
 | .yld Y o,.yld sb dV=>bif Nat.beq Y sb&&Nat.beq o dV then some [] else none
 | .nils e t,.nils ei iJ=>bif Nat.beq e ei&&decide (t=iJ) then some [] else none
 |_,_=>none
def cu.decL:List cu->List K->Option (List eN)
 |[],[]=>some []
 |d::l,r::m=>match d.dec r with
  |some a=>(cu.decL l m).map λb=>a++b
  |none=>none
 |_,_=>none
end
def jb:List (Nat×cu)->bR->Option (List eN)
 |[],[]=>some []
 |(I,d)::l,(e,r)::m=>bif Nat.beq I e then match d.dec r with
   |some a=>(jb l m).map λb=>a++b
   |none=>none
  else none
 |_,_=>none
def dZ.dec:dZ->aG->Option (List eN)
 | .arr e t fz,.arr ei ae xs kL=>bif Nat.beq e ei&&decide (ae=t)&&decide (fz=kL) then some [⟨.list ae,xs⟩] else none
 | .box T t r,.box E3 iJ d=>bif Nat.beq T E3&&decide (t=iJ) then r.dec d else none
 | .iter,.iter d pos=>some [⟨.str,d⟩,⟨.int .i64,pos⟩]
 | .gone,.gone=>some []
 | .loop Y R,.loop sb eQ p=>bif Nat.beq Y sb then (jb R eQ).map λl=>l++[⟨.int .i64,p⟩] else none
 |_,_=>none
def fW:List dZ->List aG->Option (List eN)
 |[],[]=>some []
 |d::l,b::m=>match d.dec b with
  |some a=>(fW l m).map λc=>a++c
  |none=>none
 |_,_=>none
def xb:(ni:List aB)->List eN->Option (chain ni).den
 |[],[]=>some ()
 |t::ni,I::l=>match I.t.cast? t I.x,xb ni l with
  |some x,some y=>some (x,y)
  |_,_=>none
 |_,_=>none
def Shape.dec (S:Shape) (st:bU):Option S.ty.den:=
 match jb S.regs st.regs,fW S.objs st.heap with
 |some a,some b=>xb _ (a++b)
 |_,_=>none
mutual
def Bi:cu->K->HM K
 | .dat t,r=>(w4 t r).bind λx=>.ret (.dat t x)
 | .own _ _,.nils e t=>.nw (.arr e t [] false) λo=>.ret (.own t o)
 | .own _ _,.view t o 0 E=>.rdw o λb=>match b with
  | .arr e ae xs false=>.wr o .gone (.nw (.arr e ae (xs.take E) false) λo=>.ret (.own ae o))
  |_=>.fail
 | .own _ _,.view t o aQ E=>.rdw o λb=>match b with
  | .arr e ae xs false=>bif decide (ae=t) then .wr o .gone (.nw (.arr e ae ((xs.take E).drop aQ) false) λo=>.ret (.own ae o)) else .fail
  |_=>.fail
 | .agg l,.agg m=>(GC l m).bind λm=>.ret (.agg m)
 |_,r=>.ret r
def GC:List cu->List K->HM (List K)
 |d::l,r::m=>(Bi d r).bind λr=>(GC l m).bind λm=>.ret (r::m)
 |_,m=>.ret m
end
def As:List (Nat×cu)->bR->HM bR
 |[],_=>.ret []
 |(I,d)::l,R=>match R.get I with
  |some r=>(Bi d r).bind λr=>(As l R).bind λeQ=>.ret ((I,r)::eQ)
  |none=>.fail
def rH:List Nat->List dZ->HM Unit
 |o::l,.box _ _ d::m=>.rdw o λb=>match b with
  | .box _ _ r=>(Bi d r).bind λr=>.rdw o λb=>match b with
   | .box T t _=>bif r.fits t then .wr o (.box T t r) (rH l m) else .fail
   |_=>.fail
  |_=>.fail
 |o::l,.arr _ _ true::m=>.rdw o λb=>match b with
  | .arr ..=>.frz o (rH l m)
  |_=>.fail
 |o::l,.gone::m=>.rdw o λb=>match b with
  | .arr ..=>.wr o .gone (rH l m)
  |_=>rH l m
 |_::l,_::m=>rH l m
 |_,_=>.ret ()
def uC:List dZ->Nat->HM (List (Nat×Nat))
 |[],_=>.ret []
 | .gone::l,o=>.rdw o λb=>match b with
  | .arr e t xs fz=>.wr o .gone (.nw (.arr e t xs fz) λn=>(uC l (o+1)).bind λs=>.ret ((o,n)::s))
  |_=>uC l (o+1)
 |_::l,o=>uC l (o+1)
def fwd:List (Nat×Nat)->Nat->Nat
 |[],i=>i
 |(o,n)::l,i=>bif Nat.beq i o then n else fwd l i
def w8 (ρ:Nat->Nat):List Nat->HM Unit
 |[]=>.ret ()
 |o::l=>.rdw o λb=>match b with
  | .box T t r=>.wr o (.box T t (r.ren ρ)) (w8 ρ l)
  |_=>w8 ρ l
def G7 (S:Shape) (m:Nat) (R:bR):HM bU:=
 (As S.regs R).bind λR=>(lr 200 (k3 m++R.ids) [] []).bind λp=>(rH p.1 S.objs).bind λ_=>
  (lr 200 (k3 m++R.ids) [] []).bind λs=>.ret ⟨R.ren (idx s.1),s.2.map (aG.ren (idx s.1))⟩
def Am (S:Shape) (m:Nat) (R:bR):HM bU:=
 (uC (S.objs.take m) 0).bind λs=>match s with
  |[]=>G7 S m R
  |s=>(lr 200 (k3 m++R.ids) [] []).bind λp=>(w8 (fwd s) p.1).bind λ_=>G7 S m (R.ren (fwd s))
def Shape.take (S:Shape) (m:Nat) (st:bU):DT S.ty.den:=
 ((Am S m st.regs).run st.heap st.heap.length .none).bind λ(bb,_,_,_)=>DT.ofOpt (S.dec bb)
def ef.is:ef->ef->Bool
 | .nrm,.nrm=>true | .ret,.ret=>true | .exit i,.exit j=>Nat.beq i j |_,_=>false
structure bK where
 S:Shape
 x:ef
 X:Shape
 y:ef
 Y:Shape
abbrev bK.Out (ax:bK):Type:=ax.X.ty.den⊕ax.Y.ty.den
def bK.out (ax:bK) (m:Nat) (e:ef) (st:bU):DT ax.Out:=
 bif e.is ax.x then (ax.X.take m st).bind λx=>.leaf (.inl x) else bif e.is ax.y then (ax.Y.take m st).bind λy=>.leaf (.inr y) else .fail
def bK.body (ax:bK) (F:bn) (c:Code) (k:Nat) (d:ax.S.ty.den):DT (ax.S.ty.den⊕ax.Out):=
 (gb F c k (ax.S.enc d)).bind λ(e,st)=>match e with
  | .nrm=>(ax.S.take F.m st).bind λd=>.leaf (.inl d)
  |e=>(ax.out F.m e st).bind λo=>.leaf (.inr o)
def bK.go (ax:bK) (f:ax.S.ty.den->Option ax.Out) (m:Nat) (st:bU):DT (ef×bU):=
 (ax.S.take m st).bind λd=>.alt (f d) (λx=>.leaf (ax.x,ax.X.enc x)) (λy=>.leaf (ax.y,ax.Y.enc y))
def fY {σ ρ:Type} (b:σ->Option (σ⊕ρ)):Nat->σ->Option ρ
 |0,_=>none
 |n+1,d=>match b d with
  |some (.inl t)=>fY b n t
  |some (.inr r)=>some r
  |none=>none
def jf:Nat:=1000000000000000000000000
def b6 {σ ρ:Type} (b:σ->Option (σ⊕ρ)) (d:σ):Option ρ:=fY b jf d
structure aY where
 f:FuncId
 S:Shape
 Z:Shape
 g:S.ty.den->Option Z.ty.den
def ki:bR->K
 |[(_,r)]=>r
 |l=>.tup (l.map (·.2))
def l9 (F:bn) (fn:Func) (S Z:Shape) (d:S.ty.den):DT Z.ty.den:=
 (gb F (fn.body.getD .skip) 0 (S.enc d)).bind λ(e,st)=>match e with
  | .exit _=>.fail
  |_=>((l1 F.cx st.regs 0 fn.results.toList).run st.heap st.heap.length .none).bind λ(R,h,_,_)=>Z.take F.m ⟨R,h⟩
def xi:List Nat->List K->bR->bR
 |p::ps,r::rs,R=>xi ps rs (R.put p r)
 |_,_,R=>R
def ef.isNrm:ef->Bool
 | .nrm=>true |_=>false
def PI (Y:Nat) (e:ef) (st:bU):DT bU:=match aF st.heap 0 with
 | .loop Ff R p=>bif Nat.beq Ff Y then .br (decide (p= -1)) (.leaf ⟨[(0,.dat .bool e.isNrm)],b8 st.heap 0 (.loop Y R (nX e))⟩) .fail else .fail
 |_=>.fail
def ss (F:bn) (C:bn->Code->Nat->bU->DT (ef×bU)) (Y:Nat) (c:np) (S Z:Shape) (d:S.ty.den):DT Z.ty.den:=
 match (S.enc d).regs,(S.enc d).heap with
 |(_,.yld _ 0)::args,.loop pJ R p::J=>bif Nat.beq pJ Y then .br (decide (p=0))
  (match (xi c.params (args.map (·.2)) R).get dJ with
  |some _=>.fail
  |none=>(C F c.assign 0 ⟨xi c.params (args.map (·.2)) R,.loop pJ R p::J⟩).bind λ(e,st)=>match e with
   | .nrm=>match aF st.heap 0 with
    | .loop oj R p=>bif Nat.beq oj Y then .br (decide (p=0)) ((C F c.body 0 ⟨st.regs,b8 st.heap 0 (.loop Y R (-1))⟩).bind λ(e,st)=>(PI Y e st).bind λst=>Z.take F.m st) .fail else .fail
    |_=>.fail
   |_=>.fail) .fail else .fail
 |_,_=>.fail
def uI (ax:bK) (m:Nat) (Fd:bn) (fd:FuncId) (fn:Func) (d:ax.S.ty.den):DT (ax.S.ty.den⊕ax.Out):=
 match (ax.S.enc d).regs.get dJ with
 |some (.dfr f a b t xs)=>bif Nat.beq f fd&&Nat.ble (a.length+b.length+1) fn.ntmps then .br xs.isEmpty ((ax.X.take m ⟨(ax.S.enc d).regs,(ax.S.enc d).heap⟩).bind λx=>.leaf (.inr (.inl x)))
  (.opt xs.head? λx=>(gb Fd (fn.body.getD .skip) 0 ⟨(fU 0 (a++ .fptr t x::b)).put dJ (.tup []),(ax.S.enc d).heap⟩).bind λ(e,st)=>match e,st.regs.get dJ with
   | .exit _,_=>.fail
   |_,some (.tup [])=>(ax.S.take m ⟨(ax.S.enc d).regs.put dJ (.dfr f a b t xs.tail),st.heap⟩).bind λd=>.leaf (.inl d)
   |_,_=>.fail) else .fail
 |_=>.fail
def G5 (F:bn) (fn:Func) (S Z:Shape) (d:S.ty.den):DT Z.ty.den:=
 (gb F (fn.body.getD .skip) 0 ⟨(S.enc d).regs.put dJ (.tup []),(S.enc d).heap⟩).bind λ(e,st)=>match e with
  | .exit _=>.fail
  |_=>(F.Λ dJ st).bind λ(_,st)=>((l1 F.cx st.regs 0 fn.results.toList).run st.heap st.heap.length .none).bind λ(R,h,_,_)=>Z.take F.m ⟨R,h⟩
def aY.run (cT:aY) (d:cT.S.ty.den):DT (K×List aG):=.opt (cT.g d) λz=>.leaf (ki (cT.Z.enc z).regs,(cT.Z.enc z).heap)
def hP:List aY->hM
 |[],_,_,_=>.fail
 |cT::l,f,args,J=>bif Nat.beq f cT.f then match cT.S.dec ⟨fU 0 args,J⟩ with
   |some d=>cT.run d
   |none=>hP l f args J
  else hP l f args J
end
def ez:Code->Nat->List (Nat×Code)
 | .seq a b,k=>ez a k++ez b k
 | .cond _ a b,k=>ez a k++ez b k
 | .block id c,_=>ez c id
 | .loop c,k=>(k,c)::ez c k
 | .scope c,k=>ez c k
 |_,_=>[]
def b4 (fn:Func):Code:=fn.body.getD .skip
def hk (c:Code) (i:Nat):Code:=((ez c 0).getD i (0,.skip)).2
def ly (n:Nat):Code->List (Nat×np)
 | .seq a b=>ly n a++ly n b
 | .cond _ a b=>ly n a++ly n b
 | .block _ c=>ly n c
 | .loop c=>ly n c
 | .scope c=>ly n c
 | .rangeFunc _ ps a b=>[(Jm a b,⟨ps.toList,a,b,n⟩)]
 |_=>[]
def ko (fn:Func) (i:Nat):np:=((ly fn.ntmps (b4 fn)).getD i (0,⟨[],.skip,.skip,0⟩)).2
def Vl (fn:Func) (i:Nat):Code:=.seq (ko fn i).assign (ko fn i).body
open Go.RowKit
abbrev bL:=Nat->Nat->Prop
def kB (φ:bL) (w:bk) (b o:Nat) (cs:List az):Prop:= ∀i v,cs[i]? =some v->φ b (o+i)/\w.cell? ⟨b,o+i,none⟩=some v
def c2 {α:Type} (R:α->List az->Prop):List α->List az->Prop
 |[],cs=>cs=[]
 |x::xs,cs=> ∃bh ba,cs=bh++ba/\R x bh/\c2 R xs ba
def bz (φ:bL) (w:bk):(t:aB)->t.den->List az->Prop
 | .bool,x,cs=>cs=[.bool x]
 | .int k,x,cs=>cs=[.int k x]
 | .str,x,cs=>cs=[.string ⟨⟨x⟩⟩]
 | .opq,_,_=>False
 | .unit,_,cs=>cs=[]
 | .list t,xs,cs=> ∃A n c,cs=[.slice A n c]/\xs.length=n/\n<=c/\(n=0\/ ∃b o aZ,A=some ⟨b,o,none⟩/\kB φ w b o aZ/\c2 (bz φ w t) xs aZ)
 | .pair a b,x,cs=> ∃bh ba,cs=bh++ba/\bz φ w a x.1 bh/\bz φ w b x.2 ba
theorem kB.mono {φ av:bL} {w aq:bk} {b o:Nat} {cs:List az} (aT: ∀b k,φ b k->av b k) (aw: ∀b k,φ b k->aq.cell? ⟨b,k,none⟩=w.cell? ⟨b,k,none⟩) (h:kB φ w b o cs):kB av aq b o cs:=
 λi v E=>let ⟨q,G⟩:=h i v E;⟨aT _ _ q,(aw _ _ q).trans G⟩
theorem c2.imp {α:Type} {R eQ:α->List az->Prop} (h: ∀x c,R x c->eQ x c): ∀(xs:List α) (cs:List az),c2 R xs cs->c2 eQ xs cs
 |[],_,e=>e
 |_::xs,_,⟨bh,ba,e,r,k⟩=>⟨bh,ba,e,h _ _ r,c2.imp h xs ba k⟩
theorem bz.mono {φ av:bL} {w aq:bk} (aT: ∀b k,φ b k->av b k) (aw: ∀b k,φ b k->aq.cell? ⟨b,k,none⟩=w.cell? ⟨b,k,none⟩):
  ∀(t:aB) (x:t.den) (cs:List az),bz φ w t x cs->bz av aq t x cs
 | .bool,_,_,h=>h | .int _,_,_,h=>h | .str,_,_,h=>h | .opq,_,_,h=>h | .unit,_,_,h=>h
 | .list t,xs,cs,⟨A,n,c,e,ad,aO,h⟩=>⟨A,n,c,e,ad,aO,h.imp id λ⟨b,o,aZ,e,aV,af⟩=>⟨b,o,aZ,e,aV.mono aT aw,af.imp λx c=>bz.mono aT aw t x c⟩⟩
 | .pair a b,x,cs,⟨bh,ba,e,q,G⟩=>⟨bh,ba,e,bz.mono aT aw a _ _ q,bz.mono aT aw b _ _ G⟩
theorem bz.len {φ:bL} {w:bk}: ∀(t:aB) (x:t.den) (cs:List az),bz φ w t x cs->cs.length=t.size
 | .bool,_,_,h=>by simp[bz]at h;simp[h,aB.size]
 | .int _,_,_,h=>by simp[bz]at h;simp[h,aB.size]
 | .str,_,_,h=>by simp[bz]at h;simp[h,aB.size]
 | .opq,_,_,h=>h.elim
 | .unit,_,_,h=>by simp[bz]at h;simp[h,aB.size]
 | .list t,xs,cs,⟨A,n,c,e,_⟩=>by simp[e,aB.size]
 | .pair a b,x,cs,⟨bh,ba,e,q,G⟩=>by simp[e,aB.size,bz.len a _ _ q,bz.len b _ _ G]
theorem bz.one {φ:bL} {w:bk}: ∀(t:aB) (x:t.den) (cs:List az),bz φ w t x cs-> ∀v∈cs,v.oneCell'=true
 | .bool,_,_,h=>by simp[bz]at h;simp[h];rfl
 | .int _,_,_,h=>by simp[bz]at h;simp[h];rfl
 | .str,_,_,h=>by simp[bz]at h;simp[h];rfl
 | .opq,_,_,h=>h.elim
 | .unit,_,_,h=>by simp[bz]at h;simp[h]
 | .list t,xs,cs,⟨A,n,c,e,_⟩=>by simp[e];rfl
 | .pair a b,x,cs,⟨bh,ba,e,q,G⟩=>by
  subst e;intro v a8;rcases dp.1 a8 with a8 |a8
  ·exact bz.one a _ _ q v a8
  ·exact bz.one b _ _ G v a8
section chunks
variable {α:Type} {R:α->List az->Prop} {d:Nat}
theorem c2.len (ah: ∀x c,R x c->c.length=d): ∀(xs:List α) (cs:List az),c2 R xs cs->cs.length=xs.length*d
 |[],_,e=>by simp[c2]at e;simp[e]
 |_::xs,_,⟨bh,ba,e,r,k⟩=>by simp[e,ah _ _ r,c2.len ah xs ba k,Nat.add_mul,Nat.add_comm]
theorem c2.get (ah: ∀x c,R x c->c.length=d): ∀(xs:List α) (cs:List az),c2 R xs cs-> ∀i x,xs[i]? =some x->R x ((cs.drop (i*d)).take d)
 |[],_,_,i,x,al=>by simp at al
 |y::xs,_,⟨bh,ba,e,r,k⟩,i,x,al=>by
  subst e;cases i with
  |zero=>
   simp at al;subst al;have:=ah _ _ r;subst this;simpa using r
  |succ i=>
   have CW:xs[i]? =some x:=by simpa using al
   have:=c2.get ah xs ba k i x CW;rw[show (i+1)*d=bh.length+i*d by rw[ah _ _ r,Nat.add_mul];omega,<-List.drop_drop,List.drop_left];exact this
theorem c2.append: ∀(xs aZ:List α) (cs fi:List az),c2 R xs cs->c2 R aZ fi->c2 R (xs++aZ) (cs++fi)
 |[],_,_,_,e,h=>by simp[c2]at e;subst e;simpa using h
 |_::xs,aZ,_,fi,⟨bh,ba,e,r,k⟩,h=>⟨bh,ba++fi,by simp[e],r,c2.append xs aZ ba fi k h⟩
theorem c2.drop (ah: ∀x c,R x c->c.length=d): ∀(i:Nat) (xs:List α) (cs:List az),c2 R xs cs->c2 R (xs.drop i) (cs.drop (i*d))
 |0,xs,cs,h=>by simpa using h
 |i+1,[],cs,h=>by simp[c2]at h ⊢;simp[h]
 |i+1,_::xs,_,⟨bh,ba,e,r,k⟩=>by
  subst e;have M:(bh++ba).drop ((i+1)*d)=ba.drop (i*d):=by rw[show (i+1)*d=bh.length+i*d by rw[ah _ _ r,Nat.add_mul];omega,<-List.drop_drop,List.drop_left]
  rw[M];exact c2.drop ah i xs ba k
theorem c2.take (ah: ∀x c,R x c->c.length=d): ∀(i:Nat) (xs:List α) (cs:List az),c2 R xs cs->c2 R (xs.take i) (cs.take (i*d))
 |0,xs,cs,h=>by simp[c2]
 |i+1,[],cs,h=>by simp[c2]at h ⊢;simp[h]
 |i+1,_::xs,_,⟨bh,ba,e,r,k⟩=>by subst e;refine ⟨bh,ba.take (i*d),?_,r,c2.take ah i xs ba k⟩;rw[show (i+1)*d=bh.length+i*d by rw[ah _ _ r,Nat.add_mul];omega,List.take_length_add_append]
theorem c2.set (ah: ∀x c,R x c->c.length=d): ∀(xs:List α) (cs:List az),c2 R xs cs-> ∀(i:Nat) (x:α) (c:List az),i<xs.length->R x c->c2 R (xs.set i x) (cs.take (i*d)++c++cs.drop (i*d+d))
 |[],_,_,i,x,c,E,_=>by simp at E
 |y::xs,_,⟨bh,ba,e,r,k⟩,i,x,c,E,ar=>by
  subst e;cases i with
  |zero=>
   refine ⟨c,ba,?_,ar,k⟩;have:=ah _ _ r;subst this;simp
  |succ i=>
   have aR:=c2.set ah xs ba k i x c (by simpa using E) ar;refine ⟨bh,_,?_,r,aR⟩;have M:(i+1)*d=bh.length+i*d:=by rw[ah _ _ r,Nat.add_mul];omega
   rw[M,List.take_length_add_append,show bh.length+i*d+d=bh.length+(i*d+d) by omega,<-List.drop_drop,List.drop_left];simp
theorem c2.replicate {x:α} {c:List az} (ar:R x c): ∀n,c2 R (List.replicate n x) ((List.replicate n c).flatten)
 |0=>by simp[c2]
 |n+1=>⟨c,(List.replicate n c).flatten,by simp[List.replicate_succ],ar,c2.replicate ar n⟩
end chunks
def j9:az->Bool
 | .agg _=>true |_=>false
def cF (φ:bL) (w:bk) (t:aB) (x:t.den) (v:az):Prop:=bz φ w t x v.cells.toList/\j9 v=t.isAgg
theorem rG {v:az} (h:j9 v=false):v.cells= #[v]:=by cases v<;>first |rfl |(simp[j9]at h)
theorem uT {v:az} (h:j9 v=true): ∃cs,v=.agg cs:=by cases v<;>first |exact ⟨_,rfl⟩|(simp[j9]at h)
theorem cF.int {φ:bL} {w:bk} {k:IntKind} {x:Int} {v:az}:cF φ w (.int k) x v↔v=.int k x:=by
 constructor
 ·rintro ⟨q,G⟩;rw[rG G]at q;simpa [bz] using q
 ·rintro rfl;exact ⟨rfl,rfl⟩
theorem cF.bool {φ:bL} {w:bk} {x:Bool} {v:az}:cF φ w .bool x v↔v=.bool x:=by
 constructor
 ·rintro ⟨q,G⟩;rw[rG G]at q;simpa [bz] using q
 ·rintro rfl;exact ⟨rfl,rfl⟩
theorem cF.str {φ:bL} {w:bk} {x:List UInt8} {v:az}:cF φ w .str x v↔v=.string ⟨⟨x⟩⟩:=by
 constructor
 ·rintro ⟨q,G⟩;rw[rG G]at q;simpa [bz] using q
 ·rintro rfl;exact ⟨rfl,rfl⟩
theorem cF.list {φ:bL} {w:bk} {t:aB} {xs:List t.den} {v:az} (h:cF φ w (.list t) xs v):
  ∃A n c,v=.slice A n c/\xs.length=n/\n<=c/\(n=0\/ ∃b o aZ,A=some ⟨b,o,none⟩/\kB φ w b o aZ/\c2 (bz φ w t) xs aZ):=by
 obtain ⟨q,G⟩:=h;rw[rG G]at q;obtain ⟨A,n,c,e,h⟩:=q;exact ⟨A,n,c,by simpa using e,h⟩
def mX:Option Nat->az
 |some f=>.func (.func f) #[] #[] |none=>.nilFunc
mutual
def K.rel (φ:bL) (ι:Nat->az) (w:bk):K->az->Prop
 | .undef,_=>True
 | .dat t x,v=>cF φ w t x v
 | .clip t xs,v=> ∃A n,v=.slice A n n/\bz φ w (.list t) xs [v]
 | .nilv,v=>v=.slice none 0 0
 | .nils _ _,v=>v=.slice none 0 0
 | .own _ o,v=>v=ι o/\ ∃A n c,v=.slice A n c
 | .view t o aQ E,v=> ∃A n c dh,ι o=.slice A n c/\aQ<=E/\E<=n/\n<=c/\v=.slice dh (E-aQ) (c-aQ)/\(c≠aQ->dh=A.map (·.add (aQ*t.size)))/\(c≠0-> ∃b k,A=some ⟨b,k,none⟩)
 | .ptr o t i p,v=> ∃b k,((∃n c,ι o=.slice (some ⟨b,k,none⟩) n c/\i<n)\/(ι o=.pointer (some ⟨b,0,none⟩)/\i=0/\k=0))/\v=.pointer (some ⟨b,k+i*t.size+t.offAt p,none⟩)/\(t.at_ p).isSome
 | .fptr t x,v=> ∃b o cs,v=.pointer (some ⟨b,o,none⟩)/\kB φ w b o cs/\bz φ w t x cs
 | .agg l,v=> ∃cs,v=.agg cs/\K.relL φ ι w l cs.toList
 | .tup l,v=> ∃aP,v=.tuple aP/\K.relT φ ι w l aP.toList
 | .fn f a b,v=> ∃x y,v=.func (.func f) x y/\K.relT φ ι w a x.toList/\K.relT φ ι w b y.toList
 | .iface T r,v=> ∃ae,v=.iface T ae/\r.rel φ ι w ae
 | .nilI,v=>v=.nilIface
 | .nilF,v=>v=.nilFunc
 | .nilP,v=>v=.pointer none
 | .lim t xs c,v=> ∃A n,v=.slice A n c/\bz φ w (.list t) xs [v]
 | .atl n,v=> ∃c:Nat,v=.int .i64 (c:Int)/\n<=c
 | .yld _ o,v=>v=ι o/\ ∃l,v=.func (.yield l) #[] #[]
 | .gp b off l,v=>v=.pointer (some ⟨b,off,none⟩)/\kB φ w b off (l.map mX)
 | .dfr f a b t xs,v=> ∃aP:List az,v=.tuple aP.toArray/\aP.length=xs.length/\ ∀(i:Nat) (x:t.den) (ae:az),xs[i]? =some x->aP[i]? =some ae-> ∃bh lG ba,ae=.func (.func f) #[] (bh++lG::ba).toArray/\K.relT φ ι w a bh/\(∃fq o cs,lG=.pointer (some ⟨fq,o,none⟩)/\kB φ w fq o cs/\bz φ w t x cs)/\K.relT φ ι w b ba
def K.relL (φ:bL) (ι:Nat->az) (w:bk):List K->List az->Prop
 |[],cs=>cs=[]
 |r::l,cs=> ∃v ba,cs=v.cells.toList++ba/\r.rel φ ι w v/\K.relL φ ι w l ba
def K.relT (φ:bL) (ι:Nat->az) (w:bk):List K->List az->Prop
 |[],aP=>aP=[]
 |r::l,aP=> ∃v m,aP=v::m/\r.rel φ ι w v/\K.relT φ ι w l m
end
def dM:az->Option Nat
 | .slice (some a) _ c=>if c=0 then none else some a.block
 | .pointer (some a)=>some a.block
 | .func (.yield l) _ _=>some l
 |_=>none
def sA:az->Nat
 | .slice (some a) _ _=>a.off
 |_=>0
def aG.owns:aG->Bool
 | .arr ..=>true | .box ..=>true | .iter ..=>true | .loop ..=>true |_=>false
def aG.live:aG->Bool
 | .hole=>false |_=>true
def sQ (c6:Nat×Nat) (n:Nat):Prop:= ∀k,k<n-> ¬(c6.1<=k/\k<c6.2)
structure x6 (t:aB) (c6:Nat×Nat) (n:Nat):Prop where
 ok:sQ c6 n
 last:t=.int .u8\/ ¬(c6.1<=n/\n<c6.2)
instance {t:aB} {c6:Nat×Nat} {n:Nat}:CoeFun (x6 t c6 n) λ_=> ∀k,k<n-> ¬(c6.1<=k/\k<c6.2):=⟨x6.ok⟩
structure Cells (φ:bL) (w:bk) (t:aB) (n:Nat) (cur:Array az):Prop where
 one: ∀v∈cur.toList,v.oneCell'=true
 rest:t=.int .u8\/ ∃eM:List t.den,c2 (bz φ w t) eM (cur.toList.drop (n*t.size))
instance {φ:bL} {w:bk} {t:aB} {n:Nat} {cur:Array az}:CoeFun (Cells φ w t n cur) λ_=> ∀v,v∈cur.toList->v.oneCell'=true:=⟨Cells.one⟩
theorem Cells.mono {φ av:bL} {w aq:bk} {t:aB} {n:Nat} {cur:Array az} (aT: ∀b k,φ b k->av b k) (aw: ∀b k,φ b k->aq.cell? ⟨b,k,none⟩=w.cell? ⟨b,k,none⟩) (h:Cells φ w t n cur):Cells av aq t n cur:=
 ⟨h.one,h.rest.imp id λ⟨eM,bI⟩=>⟨eM,bI.imp λx c=>bz.mono aT aw t x c⟩⟩
theorem Cells.all {φ:bL} {w:bk} {t:aB} {n:Nat} {cur:Array az} {xs:List t.den} (h:Cells φ w t n cur) (af:c2 (bz φ w t) xs (cur.toList.take (n*t.size))):t=.int .u8\/ ∃eM:List t.den,c2 (bz φ w t) (xs++eM) cur.toList:=
 h.rest.imp id λ⟨eM,bI⟩=>⟨eM,by have:=c2.append _ _ _ _ af bI;rwa [List.take_append_drop]at this⟩
theorem Cells.at_ {φ:bL} {w:bk} {t:aB} {n:Nat} {cur:Array az} {xs:List t.den} (h:Cells φ w t n cur) (af:c2 (bz φ w t) xs (cur.toList.take (n*t.size))) (j:Nat):t=.int .u8\/ ∃eM:List t.den,c2 (bz φ w t) eM (cur.toList.drop (j*t.size)):=
 (h.all af).imp id λ⟨eM,bI⟩=>⟨_,bI.drop (λx c=>bz.len t x c) j⟩
theorem NS {α:Type} {l news:List α} {a I:Nat} (aV:a<=l.length) (ao:a+news.length<=I):(l.take a++news++l.drop (a+news.length)).drop I=l.drop I:=by rw[List.drop_append,List.drop_of_length_le (by simp;omega),List.nil_append,List.drop_drop];congr 1;simp;omega
def P9:ef->Code
 | .nrm=>.skip | .ret=>.ret | .exit i=>.exit i
def T0 (rec:Loop) (p:Int):Prop:=
 (p=0/\rec.state=.ready/\rec.pending=none)\/(p= -1/\rec.state=.busy)\/ ∃e:ef,p=nX e/\e≠ .nrm/\rec.state=.done/\rec.pending=some (P9 e)
structure G0 [Env] (φ:bL) (ι:Nat->az) (w:bk) (l:Nat) (rec:Loop) (c:np) (Y:Nat) (R:bR) (p:Int):Prop where
 code:Env.code Y=some c
 heap:w.heap[l]? =some (.loop rec)
 params:rec.params.toList=c.params
 assign:rec.assign=c.assign
 body:rec.body=c.body
 nt:rec.tmps.size=c.nt
 st:T0 rec p
 regs: ∀s∈R,s.2.rel φ ι w (rec.tmps.getD s.1 undef)
 phi: ∀k,¬φ l k
section
variable [Env]
def jz (φ:bL) (ι:Nat->az) (w:bk) (o:Nat):aG->Prop
 | .hole=>True
 | .gone=>True
 | .arr e t xs fz=> ∃A n c,ι o=.slice A n c/\xs.length=n/\n<=c/\c<=maxLen/\(c=0\/
   ∃b pre cur c6,A=some ⟨b,pre.size,none⟩/\w.heap[b]? =some (.cells (pre++cur) e c6)/\cur.size=c*t.size/\x6 t c6 (pre.size+cur.size)/\(∀v∈pre.toList,v.oneCell'=true)/\Cells φ w t n cur/\
    c2 (bz φ w t) xs (cur.toList.take (n*t.size))/\(∀k,φ b k->fz=true/\pre.size<=k/\k<pre.size+n*t.size)/\(fz=true-> ∀k,k<n*t.size->φ b (pre.size+k)))
 | .box T t r=> ∃b cur c6 v,ι o=.pointer (some ⟨b,0,none⟩)/\w.heap[b]? =some (.cells cur T c6)/\cur.size=t.size/\sQ c6 cur.size/\(∀v∈cur.toList,v.oneCell'=true)/\
    r.rel φ ι w v/\v.cells=cur/\r.fits t=true/\(∀k,¬φ b k)
 | .iter d pos=> ∃(b n:Nat),ι o=.pointer (some ⟨b,0,none⟩)/\w.heap[b]? =some (.stringIter ⟨⟨d⟩⟩ n)/\pos=n/\(∀k,¬φ b k)
 | .loop Y R p=> ∃(l:Nat) (rec:Loop) (c:np),ι o=.func (.yield l) #[] #[]/\G0 φ ι w l rec c Y R p
def jY (ι:Nat->az) (J:List aG) (b:Nat):Prop:= ∃o,(aF J o).owns=true/\dM (ι o)=some b
structure cg (φ:bL) (ι:Nat->az) (w:bk) (J:List aG):Prop where
 obj: ∀o,jz φ ι w o (aF J o)
 apart: ∀o dV b,(aF J o).owns=true->(aF J dV).owns=true->dM (ι o)=some b->dM (ι dV)=some b->o=dV
 phi: ∀b k,φ b k-> ∃v,w.cell? ⟨b,k,none⟩=some v
 ids: ∀o,∀i∈(aF J o).ids,(aF J i).live=true
 glob: ∀g,kB φ w g 0 ((Env.glob g).map mX)
theorem cg.idsB {φ:bL} {ι:Nat->az} {w:bk} {J:List aG} (h:cg φ ι w J) (o:Nat) (T:bq) (t:aB) (r:K) (L:aF J o=.box T t r) (i:Nat) (E:i∈r.ids):(aF J i).live=true:=h.ids o i (by rw[L];exact E)
end
structure Step (φ:bL) (ι:Nat->az) (w:bk) (J:List aG) (av:bL) (aH:Nat->az) (aq:bk) (aA:List aG):Prop where
 phi: ∀b k,φ b k->av b k
 cells: ∀b k,φ b k->aq.cell? ⟨b,k,none⟩=w.cell? ⟨b,k,none⟩
 newphi: ∀b k,av b k->φ b k\/w.heap.size<=b\/jY ι J b
 size:w.heap.size<=aq.heap.size
 os:aq.os=w.os
 tape:aq.tape=w.tape
 output:aq.output=w.output
 blocks: ∀b,b<w.heap.size-> ¬jY ι J b->aq.heap[b]? =w.heap[b]?
 own: ∀b,jY aH aA b->w.heap.size<=b\/jY ι J b
structure eo (ι:Nat->az) (J:List aG) (aH:Nat->az) (aA:List aG):Prop where
 iota: ∀o,(aF J o).live=true->aH o=ι o
 live: ∀o,(aF J o).live=true->(aF aA o).live=true
theorem eo.refl (ι:Nat->az) (J:List aG):eo ι J ι J:=⟨λ_ _=>rfl,λ_ h=>h⟩
theorem eo.trans {ι aH hL:Nat->az} {J aA mL:List aG} (h:eo ι J aH aA) (k:eo aH aA hL mL):eo ι J hL mL:=
 ⟨λo W=>(k.iota o (h.live o W)).trans (h.iota o W),λo W=>k.live o (h.live o W)⟩
theorem Step.refl (φ:bL) (ι:Nat->az) (w:bk) (J:List aG):Step φ ι w J φ ι w J:=
 ⟨λ_ _ h=>h,λ_ _ _=>rfl,λ_ _ h=>.inl h,ca _,rfl,rfl,rfl,λ_ _ _=>rfl,λ_ h=>.inr h⟩
theorem Step.trans {φ:bL} {ι:Nat->az} {w:bk} {J:List aG} {av:bL} {aH:Nat->az} {aq:bk} {aA:List aG} {EG:bL} {hL:Nat->az} {D9:bk} {mL:List aG}
  (h:Step φ ι w J av aH aq aA) (k:Step av aH aq aA EG hL D9 mL):Step φ ι w J EG hL D9 mL where
 phi b i L:=k.phi b i (h.phi b i L)
 cells b i L:=(k.cells b i (h.phi b i L)).trans (h.cells b i L)
 newphi b i L:=by
  rcases k.newphi b i L with q |q |q
  ·exact h.newphi b i q
  ·exact .inr (.inl (Nat.le_trans h.size q))
  ·exact .inr (h.own b q)
 size:=Nat.le_trans h.size k.size
 os:=k.os.trans h.os
 tape:=k.tape.trans h.tape
 output:=k.output.trans h.output
 blocks b L W:=by
  have aO: ¬jY aH aA b:=λaw=>(h.own b aw).elim (λq=>u) W
  rw[k.blocks b (Nat.lt_of_lt_of_le L h.size) aO];exact h.blocks b L W
 own b L:=by
  rcases k.own b L with q |q
  ·exact .inl (Nat.le_trans h.size q)
  ·exact h.own b q
theorem cF.mono {φ av:bL} {w aq:bk} (aT: ∀b k,φ b k->av b k) (aw: ∀b k,φ b k->aq.cell? ⟨b,k,none⟩=w.cell? ⟨b,k,none⟩) {t:aB} {x:t.den} {v:az} (h:cF φ w t x v):cF av aq t x v:=
 ⟨bz.mono aT aw _ _ _ h.1,h.2⟩
mutual
theorem K.rel_mono {φ av:bL} {ι aH:Nat->az} {w aq:bk} (aT: ∀b k,φ b k->av b k) (aw: ∀b k,φ b k->aq.cell? ⟨b,k,none⟩=w.cell? ⟨b,k,none⟩):
  ∀(r:K) (v:az),(∀i∈r.ids,aH i=ι i)->r.rel φ ι w v->r.rel av aH aq v
 | .undef,_,_,_=>trivial
 | .dat t x,v,_,h=>cF.mono aT aw h
 | .clip t xs,v,_,⟨A,n,e,h⟩=>⟨A,n,e,bz.mono aT aw _ _ _ h⟩
 | .nilv,_,_,h=>h
 | .nils _ _,_,_,h=>h
 | .own t o,v,E,h=>by simp only[K.rel]at h ⊢;rw[E o (by simp[K.ids])];exact h
 | .view t o aQ dN,v,E,h=>by simp only[K.rel]at h ⊢;rw[E o (by simp[K.ids])];exact h
 | .ptr o t i p,v,E,h=>by simp only[K.rel]at h ⊢;rw[E o (by simp[K.ids])];exact h
 | .fptr t x,v,_,⟨b,o,cs,e,q,G⟩=>⟨b,o,cs,e,q.mono aT aw,bz.mono aT aw _ _ _ G⟩
 | .agg l,v,E,⟨cs,e,h⟩=>⟨cs,e,K.relL_mono aT aw l _ (λi h=>E i (by simpa [K.ids] using h)) h⟩
 | .tup l,v,E,⟨cs,e,h⟩=>⟨cs,e,K.relT_mono aT aw l _ (λi h=>E i (by simpa [K.ids] using h)) h⟩
 | .fn f a b,v,E,⟨x,y,e,q,G⟩=>⟨x,y,e,K.relT_mono aT aw a _ (λi h=>E i (by simp[K.ids,h])) q,K.relT_mono aT aw b _ (λi h=>E i (by simp[K.ids,h])) G⟩
 | .iface T r,v,E,⟨ae,e,h⟩=>⟨ae,e,K.rel_mono aT aw r ae (λi h=>E i (by simpa [K.ids] using h)) h⟩
 | .nilI,_,_,h=>h
 | .nilF,_,_,h=>h
 | .nilP,_,_,h=>h
 | .atl _,_,_,h=>h
 | .lim t xs c,v,_,⟨A,n,e,h⟩=>⟨A,n,e,bz.mono aT aw _ _ _ h⟩
 | .yld Y o,v,E,h=>by simp only[K.rel]at h ⊢;rw[E o (by simp[K.ids])];exact h
 | .gp b off l,v,_,⟨e,h⟩=>⟨e,h.mono aT aw⟩
 | .dfr f a b t xs,v,E,⟨aP,e,ad,h⟩=>⟨aP,e,ad,λi x ae al hu=>
   let ⟨bh,lG,ba,M,q,⟨fq,o,cs,V,G,ab⟩,aE⟩:=h i x ae al hu
   ⟨bh,lG,ba,M,K.relT_mono aT aw a _ (λi h=>E i (by simp[K.ids,h])) q,⟨fq,o,cs,V,G.mono aT aw,bz.mono aT aw _ _ _ ab⟩,K.relT_mono aT aw b _ (λi h=>E i (by simp[K.ids,h])) aE⟩⟩
theorem K.relL_mono {φ av:bL} {ι aH:Nat->az} {w aq:bk} (aT: ∀b k,φ b k->av b k) (aw: ∀b k,φ b k->aq.cell? ⟨b,k,none⟩=w.cell? ⟨b,k,none⟩):
  ∀(l:List K) (cs:List az),(∀i∈K.idsL l,aH i=ι i)->K.relL φ ι w l cs->K.relL av aH aq l cs
 |[],_,_,h=>h
 |r::l,_,E,⟨v,ba,e,q,G⟩=>⟨v,ba,e,K.rel_mono aT aw r v (λi h=>E i (by simp[K.idsL,h])) q,K.relL_mono aT aw l ba (λi h=>E i (by simp[K.idsL,h])) G⟩
theorem K.relT_mono {φ av:bL} {ι aH:Nat->az} {w aq:bk} (aT: ∀b k,φ b k->av b k) (aw: ∀b k,φ b k->aq.cell? ⟨b,k,none⟩=w.cell? ⟨b,k,none⟩):
  ∀(l:List K) (aP:List az),(∀i∈K.idsL l,aH i=ι i)->K.relT φ ι w l aP->K.relT av aH aq l aP
 |[],_,_,h=>h
 |r::l,_,E,⟨v,ba,e,q,G⟩=>⟨v,ba,e,K.rel_mono aT aw r v (λi h=>E i (by simp[K.idsL,h])) q,K.relT_mono aT aw l ba (λi h=>E i (by simp[K.idsL,h])) G⟩
end
theorem K.rel_step {φ:bL} {ι:Nat->az} {w:bk} {J:List aG} {av:bL} {aH:Nat->az} {aq:bk} {aA:List aG} {r:K} {v:az}
  (d:Step φ ι w J av aH aq aA) (k:eo ι J aH aA) (ad: ∀i∈r.ids,(aF J i).live=true) (h:r.rel φ ι w v):r.rel av aH aq v:=
 K.rel_mono d.phi d.cells r v (λi E=>k.iota i (ad i E)) h
open Go.RowKit
theorem DT.val_bind {α β:Type} (x:DT α) (f:α->DT β):(x.bind f).val=x.val.bind λa=>(f a).val:=by
 induction x with
 |leaf a=>rfl
 |fail=>rfl
 |br b x y jr js=>simp only[DT.bind,DT.val,jr,js];cases b<;>rfl
 |opt o k aR=>cases o with
  |none=>rfl
  |some r=>simp only[DT.bind,DT.val];exact aR r
 |alt o k h ph Sb=>cases o with
  |none=>rfl
  |some r=>cases r with
   |inl r=>simp only[DT.bind,DT.val];exact ph r
   |inr r=>simp only[DT.bind,DT.val];exact Sb r
theorem DT.val_bind_some {α β:Type} {x:DT α} {f:α->DT β} {b:β} (h:(x.bind f).val=some b): ∃a,x.val=some a/\(f a).val=some b:=by rw[DT.val_bind]at h;exact Option.bind_eq_some_iff.1 h
theorem DT.val_ofOpt {α:Type} (o:Option α):(DT.ofOpt o).val=o:=by cases o<;>rfl
namespace HM
variable {α β:Type}
def go:HM α->List aG->Nat->Option (α×List aG×Nat)
 |ret a,h,n=>some (a,h,n)
 |fail,_,_=>none
 |br b x y,h,n=>bif b then x.go h n else y.go h n
 |opt o k,h,n=>match o with |some r=>(k r).go h n |none=>none
 |alt o k l,h,n=>match o with |some (.inl r)=>(k r).go h n |some (.inr r)=>(l r).go h n |none=>none
 |rdc o k,h,n=>(k (aF h o).mask).go h n
 |frz o k,h,n=>k.go (b8 h o (aF h o).freeze) n
 |rdw o k,h,n=>(k (aF h o)).go h n
 |wr o b k,h,n=>k.go (b8 h o b) n
 |nw b k,h,n=>(k n).go (b8 h n b) (n+1)
 |nxt k,h,n=>(k n).go h n
theorem go_run (x:HM α): ∀(h:List aG) (n:Nat) (p:dj) (a:α) (cB:List aG) (aJ:Nat) (hp:dj),(x.run h n p).val=some (a,cB,aJ,hp)->x.go h n=some (a,cB,aJ):=by
 induction x with
 |ret a=>intro h n p a cB aJ hp e;simp only[run,DT.val,bJ,c0]at e;obtain ⟨rfl,rfl,rfl,_⟩:=e;rfl
 |fail=>intro h n p a cB aJ hp e;simp[run,DT.val]at e
 |br b x y jr js=>
  intro h n p a cB aJ hp e;simp only[run,DT.val]at e;cases b
  ·exact js _ _ _ _ _ _ _ e
  ·exact jr _ _ _ _ _ _ _ e
 |opt o k aR=>
  intro h n p a cB aJ hp e;cases o with
  |none=>simp[run,DT.val]at e
  |some r=>exact aR r _ _ _ _ _ _ _ e
 |alt o k l ph vE=>
  intro h n p a cB aJ hp e;cases o with
  |none=>simp[run,DT.val]at e
  |some r=>cases r with
   |inl r=>exact ph r _ _ _ _ _ _ _ e
   |inr r=>exact vE r _ _ _ _ _ _ _ e
 |rdc o k aR=>intro h n p a cB aJ hp e;exact aR _ _ _ _ _ _ _ _ e
 |frz o k aR=>intro h n p a cB aJ hp e;exact aR _ _ _ _ _ _ _ e
 |rdw o k aR=>intro h n p a cB aJ hp e;exact aR _ _ _ _ _ _ _ _ e
 |wr o b k aR=>intro h n p a cB aJ hp e;exact aR _ _ _ _ _ _ _ e
 |nw b k aR=>intro h n p a cB aJ hp e;exact aR _ _ _ _ _ _ _ _ e
 |nxt k aR=>intro h n p a cB aJ hp e;exact aR _ _ _ _ _ _ _ _ e
theorem go_bind (x:HM α) (f:α->HM β): ∀(h:List aG) (n:Nat),(x.bind f).go h n=(x.go h n).bind λs=>(f s.1).go s.2.1 s.2.2:=by
 induction x with
 |ret a=>intro h n;rfl
 |fail=>intro h n;rfl
 |br b x y jr js=>intro h n;simp only[bind,go,jr,js];cases b<;>rfl
 |opt o k aR=>intro h n;cases o with
  |none=>rfl
  |some r=>exact aR r h n
 |alt o k l ph vE=>intro h n;cases o with
  |none=>rfl
  |some r=>cases r with
   |inl r=>exact ph r h n
   |inr r=>exact vE r h n
 |rdc o k aR=>intro h n;exact aR _ h n
 |frz o k aR=>intro h n;exact aR _ n
 |rdw o k aR=>intro h n;exact aR _ h n
 |wr o b k aR=>intro h n;exact aR _ n
 |nw b k aR=>intro h n;exact aR _ _ _
 |nxt k aR=>intro h n;exact aR _ h n
theorem go_bind_some {x:HM α} {f:α->HM β} {h:List aG} {n:Nat} {r:β×List aG×Nat} (e:(x.bind f).go h n=some r): ∃a q dm,x.go h n=some (a,q,dm)/\(f a).go q dm=some r:=by rw[go_bind]at e;obtain ⟨s,aN,ar⟩:=Option.bind_eq_some_iff.1 e;exact ⟨s.1,s.2.1,s.2.2,aN,ar⟩
theorem go_ofOpt (o:Option α) (h:List aG) (n:Nat):(ofOpt o).go h n=o.map λa=>(a,h,n):=by cases o<;>rfl
theorem go_ofDT (x:DT α) (h:List aG) (n:Nat):(ofDT x).go h n=x.val.map λa=>(a,h,n):=by
 induction x with
 |leaf a=>rfl
 |fail=>rfl
 |br b x y jr js=>simp only[ofDT,go,DT.val,jr,js];cases b<;>rfl
 |opt o k aR=>cases o with
  |none=>rfl
  |some r=>exact aR r
 |alt o k h ph Sb=>cases o with
  |none=>rfl
  |some r=>cases r with
   |inl r=>exact ph r
   |inr r=>exact Sb r
theorem go_chk {b:Bool} {x:HM α} {h:List aG} {n:Nat} {r:α×List aG×Nat} (e:(chk b x).go h n=some r):b=true/\x.go h n=some r:=by
 cases b
 ·simp[chk,go]at e
 ·exact ⟨rfl,e⟩
end HM
theorem gL (J:List aG) (o:Nat) (b:aG) (i:Nat) (W:o<=J.length):aF (b8 J o b) i=if i=o then b else aF J i:=by
 unfold aF
 induction J generalizing o i with
 |nil=>
  have:o=0:=by simpa using W
  subst this;cases i with
  |zero=>rfl
  |succ i=>simp[b8]
 |cons a l aR=>
  cases o with
  |zero=>cases i<;>simp[b8]
  |succ o=>
   cases i with
   |zero=>simp[b8]
   |succ i=>
    have:=aR o i (by simpa using W);simpa [b8] using this
theorem ij (J:List aG) (o:Nat) (b:aG) (W:o<J.length):(b8 J o b).length=J.length:=by
 induction J generalizing o with
 |nil=>simp at W
 |cons a l aR=>cases o with
  |zero=>rfl
  |succ o=>simpa [b8] using aR o (by simpa using W)
theorem tJ (J:List aG) (b:aG):(b8 J J.length b).length=J.length+1:=by
 induction J with
 |nil=>rfl
 |cons a l aR=>simpa [b8] using aR
theorem gM {J:List aG} {o:Nat} (h:(aF J o).live=true):o<J.length:=by
 rcases Nat.lt_or_ge o J.length with q |q
 ·exact q
 ·simp[aF,jN,List.getElem?_eq_none q,aG.live]at h
theorem bR.mem_ids {R:bR} {s:Nat×K} (h:s∈R): ∀i∈s.2.ids,i∈R.ids:=by
 induction R with
 |nil=>cases h
 |cons p l aR=>
  intro i E;simp only[bR.ids,dp];rcases e7.1 h with rfl |h
  ·exact .inl E
  ·exact .inr (aR h i E)
theorem bR.ids_mem {R:bR} {i:Nat} (h:i∈R.ids): ∃s∈R,i∈s.2.ids:=by
 induction R with
 |nil=>simp[bR.ids]at h
 |cons p l aR=>
  simp only[bR.ids,dp]at h;rcases h with h |h
  ·exact ⟨p,aU,h⟩
  ·obtain ⟨s,q,G⟩:=aR h;exact ⟨s,by simp[q],G⟩
theorem jz.keep [Env] {φ av:bL} {ι aH:Nat->az} {w aq:bk} {o:Nat} {dg:aG} (aT: ∀b k,φ b k->av b k) (aw: ∀b k,φ b k->aq.cell? ⟨b,k,none⟩=w.cell? ⟨b,k,none⟩)
  (E:dg.live=true->aH o=ι o) (fr: ∀i∈dg.ids,aH i=ι i) (L: ∀b,dg.owns=true->dM (ι o)=some b->aq.heap[b]? =w.heap[b]? /\ ∀k,av b k->φ b k) (h:jz φ ι w o dg):jz av aH aq o dg:=by
 cases dg with
 |hole=>trivial
 |gone=>trivial
 |arr e t xs fz=>
  obtain ⟨A,n,c,M,V,a1,bp,h⟩:=h;refine ⟨A,n,c,(E rfl).trans M,V,a1,bp,?_⟩;rcases h with h |⟨b,pre,cur,c6,rfl,q,G,ab,bY,aE,bf,bF,dU⟩
  ·exact .inl h
  ·by_cases hi:c=0
   ·exact .inl hi
   ·obtain ⟨bg,vv⟩:=L b rfl (by rw[M];simp[dM,hi]);exact .inr ⟨b,pre,cur,c6,rfl,bg.trans q,G,ab,bY,aE.mono aT aw,bf.imp λx c=>bz.mono aT aw t x c,λk af=>bF k (vv k af),λbI k af=>aT _ _ (dU bI k af)⟩
 |box T t r=>
  obtain ⟨b,cur,c6,v,M,q,G,ab,aE,bf,bF,dU,hh⟩:=h;obtain ⟨bg,vv⟩:=L b rfl (by rw[M];rfl);exact ⟨b,cur,c6,v,(E rfl).trans M,bg.trans q,G,ab,aE,K.rel_mono aT aw r v fr bf,bF,dU,λk af=>hh k (vv k af)⟩
 |iter d pos=>
  obtain ⟨b,n,M,q,G,ab⟩:=h;obtain ⟨bg,vv⟩:=L b rfl (by rw[M];rfl);exact ⟨b,n,(E rfl).trans M,bg.trans q,G,λk af=>ab k (vv k af)⟩
 |loop Y R p=>
  obtain ⟨l,rec,c,M,q⟩:=h;obtain ⟨bg,vv⟩:=L l rfl (by rw[M];rfl);exact ⟨l,rec,c,(E rfl).trans M,⟨q.code,bg.trans q.heap,q.params,q.assign,q.body,q.nt,q.st,λs aN=>K.rel_mono aT aw s.2 _ (λi E=>fr i (bR.mem_ids aN i E)) (q.regs s aN),λk af=>q.phi k (vv k af)⟩⟩
theorem jz.blk_arr [Env] {φ:bL} {ι:Nat->az} {w:bk} {o:Nat} {e:bq} {t:aB} {xs:List t.den} {fz:Bool} (h:jz φ ι w o (.arr e t xs fz)) {b:Nat} (L:dM (ι o)=some b):
  ∃n c pre cur c6,ι o=.slice (some ⟨b,pre.size,none⟩) n c/\xs.length=n/\n<=c/\c<=maxLen/\c≠0/\w.heap[b]? =some (.cells (pre++cur) e c6)/\cur.size=c*t.size/\x6 t c6 (pre.size+cur.size)/\(∀v∈pre.toList,v.oneCell'=true)/\Cells φ w t n cur/\
    c2 (bz φ w t) xs (cur.toList.take (n*t.size))/\(∀k,φ b k->fz=true/\pre.size<=k/\k<pre.size+n*t.size)/\(fz=true-> ∀k,k<n*t.size->φ b (pre.size+k)):=by
 obtain ⟨A,n,c,M,V,a1,bp,h⟩:=h;rw[M]at L;rcases h with h |⟨bX,pre,cur,c6,rfl,h⟩
 ·subst h;cases A<;>simp[dM]at L
 ·by_cases hi:c=0
  ·subst hi;simp[dM]at L
  ·have:bX=b:=by simpa [dM,hi] using L
   subst this;exact ⟨n,c,pre,cur,c6,M,V,a1,bp,hi,h⟩
structure fe [Env] (φ:bL) (ι:Nat->az) (w:bk) (J:List aG) (av:bL) (aA:List aG):Prop where
 rel:cg av ι w aA
 step:Step φ ι w J av ι w aA
 live: ∀o,(aF aA o).live=(aF J o).live
 len:aA.length=J.length
theorem fe.refl [Env] {φ:bL} {ι:Nat->az} {w:bk} {J:List aG} (h:cg φ ι w J):fe φ ι w J φ J:=⟨h,Step.refl _ _ _ _,λ_=>rfl,rfl⟩
theorem fe.keep [Env] {φ:bL} {ι:Nat->az} {w:bk} {J:List aG} {av:bL} {aA:List aG} (g:fe φ ι w J av aA):eo ι J ι aA:=⟨λ_ _=>rfl,λo h=>(g.live o).trans h⟩
theorem fe.trans [Env] {φ:bL} {ι:Nat->az} {w:bk} {J:List aG} {av:bL} {aA:List aG} {EG:bL} {mL:List aG} (g:fe φ ι w J av aA) (k:fe av ι w aA EG mL):fe φ ι w J EG mL:=
 ⟨k.rel,g.step.trans k.step,λo=>(k.live o).trans (g.live o),k.len.trans g.len⟩
theorem ary (b:aG):b.freeze.live=b.live:=by cases b<;>rfl
theorem arz (b:aG):b.freeze.owns=b.owns:=by cases b<;>rfl
theorem M5 [Env] {φ:bL} {ι:Nat->az} {w:bk} {J:List aG} (h:cg φ ι w J) (o:Nat) (W:o<J.length):
  ∃av,fe φ ι w J av (b8 J o (aF J o).freeze)/\(∀e t xs fz,aF J o=.arr e t xs fz-> ∀b k,dM (ι o)=some b->k<xs.length*t.size->av b (sA (ι o)+k)):=by
 have bO: ∀i,aF (b8 J o (aF J o).freeze) i=if i=o then (aF J o).freeze else aF J i:=λi=>gL J o _ i (Nat.le_of_lt W)
 by_cases hS: ∃e t xs fz,aF J o=.arr e t xs fz
 ·obtain ⟨e,t,xs,fz,aV⟩:=hS;have cq:=h.obj o;rw[aV]at cq
  let av:bL:=λb k=>φ b k\/(dM (ι o)=some b/\sA (ι o)<=k/\k<sA (ι o)+xs.length*t.size)
  have aT: ∀b k,φ b k->av b k:=λb k L=>.inl L
  have m7: ∀i,(aF (b8 J o (aF J o).freeze) i).owns=(aF J i).owns:=λi=>by
   rw[bO];split
   ·rename_i E;subst E;exact arz _
   ·rfl
  have e2: ∀i,(aF (b8 J o (aF J o).freeze) i).live=(aF J i).live:=λi=>by
   rw[bO];split
   ·rename_i E;subst E;exact ary _
   ·rfl
  have oE: ∀b,jY ι (b8 J o (aF J o).freeze) b↔jY ι J b:=λb=>by simp only[jY,m7]
  refine ⟨av,⟨⟨?_,?_,?_,?_,λg=>(h.glob g).mono aT (λ_ _ _=>rfl)⟩,⟨aT,λ_ _ _=>rfl,?_,ca _,rfl,rfl,rfl,λ_ _ _=>rfl,λb L=>.inr ((oE b).1 L)⟩,e2,ij J o _ W⟩,?_⟩
  ·intro i;rw[bO];split
   ·rename_i E;subst E;rw[aV];obtain ⟨A,n,c,M,V,a1,bp,bg⟩:=cq;refine ⟨A,n,c,M,V,a1,bp,?_⟩;rcases bg with bg |⟨b,pre,cur,c6,rfl,q,G,ab,bY,aE,bf,bF,dU⟩
    ·exact .inl bg
    ·by_cases hi:c=0
     ·exact .inl hi
     ·have jS:dM (ι i)=some b:=by rw[M];simp[dM,hi]
      have yd:sA (ι i)=pre.size:=by rw[M];rfl
      refine .inr ⟨b,pre,cur,c6,rfl,q,G,ab,bY,aE.mono aT (λ_ _ _=>rfl),bf.imp λx c=>bz.mono aT (λ_ _ _=>rfl) t x c,?_,?_⟩
      ·rintro k (af |⟨kO,kv⟩)
       ·exact ⟨rfl,(bF k af).2⟩
       ·rw[yd,V]at kv;exact ⟨rfl,kv⟩
      ·exact λ_ k af=>.inr ⟨jS,by rw[yd,V];omega⟩
   ·rename_i E;refine (h.obj i).keep aT (λ_ _ _=>rfl) (λ_=>rfl) (λ_ _=>rfl) λb iE L=>⟨rfl,λk af=> ?_⟩
    rcases af with af |⟨af,_⟩
    ·exact af
    ·exact absurd (h.apart i o b iE (by rw[aV];rfl) L af) E
  ·intro i j b E ak q G;rw[m7]at E ak;exact h.apart i j b E ak q G
  ·rintro b k (af |⟨kO,kv⟩)
   ·exact h.phi b k af
   ·obtain ⟨n,c,pre,cur,c6,M,V,a1,bp,hi,q,G,_⟩:=cq.blk_arr kO;have yd:sA (ι o)=pre.size:=by rw[M];rfl
    have hmul:n*t.size<=c*t.size:=gV _ a1;rw[yd,V]at kv;have bu:k<(pre++cur).size:=by rw[Array.size_append,G];omega
    exact ⟨(pre++cur)[k],by simp[World.cell?,q,Array.getElem?_eq_getElem bu]⟩
  ·intro i j ak;rw[bO]at ak;rw[e2];split at ak
   ·rw[aV]at ak;simp[aG.freeze,aG.ids]at ak
   ·exact h.ids i j ak
  ·rintro b k (af |⟨kO,_⟩)
   ·exact .inl af
   ·exact .inr (.inr ⟨o,by rw[aV];rfl,kO⟩)
  ·intro ei iJ hB kL aeu b k L af;rw[aV]at aeu;cases aeu;exact .inr ⟨L,Nat.le_add_right _ _,Nat.add_lt_add_left af _⟩
 ·have aeN:(aF J o).freeze=aF J o:=by
   cases dB:aF J o with
   |arr e t xs fz=>exact absurd ⟨e,t,xs,fz,dB⟩ hS
   |_=>rfl
  have CQ: ∀i,aF (b8 J o (aF J o).freeze) i=aF J i:=λi=>by
   rw[bO,aeN];split
   ·rename_i E;subst E;rfl
   ·rfl
  refine ⟨φ,⟨⟨λi=> ?_,λi j b E ak=> ?_,h.phi,λi j ak=> ?_,h.glob⟩,⟨λ_ _ h=>h,λ_ _ _=>rfl,λ_ _ h=>.inl h,ca _,rfl,rfl,rfl,λ_ _ _=>rfl,λb L=>.inr ?_⟩,λi=>by rw[CQ],ij J o _ W⟩,λe t xs fz aV=>absurd ⟨e,t,xs,fz,aV⟩ hS⟩
  ·rw[CQ];exact h.obj i
  ·rw[CQ]at E ak;exact h.apart i j b E ak
  ·rw[CQ]at ak ⊢;exact h.ids i j ak
  ·obtain ⟨i,q,G⟩:=L;rw[CQ]at q;exact ⟨i,q,G⟩
open Go.RowKit
theorem hI (b o k:Nat):(⟨b,o,none⟩:Addr).add k=⟨b,o+k,none⟩:=by unfold Addr.add;split<;>simp_all
theorem rN {t ae:aB} {x:t.den} {y:ae.den} (h:t.cast? ae x=some y): ∃e:t=ae,y=e▸x:=by
 unfold aB.cast? at h;split at h
 ·rename_i e;exact ⟨e,by simpa using h.symm⟩
 ·cases h
theorem oM {b:aG} {e:bq} {t:aB} {xs:List t.den} {fz:Bool} (h:b.mask=.arr e t xs fz): ∃kL,b=.arr e t xs kL/\fz=false:=by cases b<;>simp[aG.mask]at h;obtain ⟨rfl,rfl,ab,aE⟩:=h;obtain rfl:=eq_of_heq ab;exact ⟨_,rfl,aE⟩
theorem aiY {b:aG} {T:bq} {t:aB} {r:K} (h:b.mask=.box T t r):b=.box T t r:=by cases b<;>simp[aG.mask]at h;obtain ⟨rfl,rfl,rfl⟩:=h;rfl
theorem qd {w:bk} {b k:Nat} {cur:Array az} {e:bq} {c6:Nat×Nat} (h:w.heap[b]? =some (.cells cur e c6)):w.cell? ⟨b,k,none⟩=cur[k]? :=by simp[World.cell?,h]
theorem UU [Env] {φ:bL} {ι:Nat->az} {w:bk} {o:Nat} {e:bq} {t:aB} {xs:List t.den} {fz:Bool} (h:jz φ ι w o (.arr e t xs fz))
  (kx: ∀b k,dM (ι o)=some b->k<xs.length*t.size->φ b (sA (ι o)+k)) {A dh:Option Addr} {n c aQ E:Nat} (a8:ι o=.slice A n c) (q:aQ<=E) (G:E<=n) (e4:c≠aQ->dh=A.map (·.add (aQ*t.size))):
  bz φ w (.list t) ((xs.take E).drop aQ) [.slice dh (E-aQ) (c-aQ)]:=by
 obtain ⟨jx,aJ,eD,M,V,a1,bp,bg⟩:=h;rw[a8]at M;injection M with M gy P5
 subst M gy P5;refine ⟨_,_,_,rfl,by simp[V];omega,u,?_⟩;by_cases bI:E-aQ=0
 ·exact .inl bI
 ·refine .inr ?_;have aw:c≠aQ:=u;rcases bg with bg |⟨b,pre,cur,c6,rfl,g1,g2,g3,g0,g4,g5,g6,g7⟩
  ·omega
  ·have jS:dM (ι o)=some b:=by rw[a8];simp[dM];omega
   have yd:sA (ι o)=pre.size:=by rw[a8];rfl
   have hle:E*t.size<=n*t.size:=gV _ G;refine ⟨b,pre.size+aQ*t.size,(cur.toList.take (E*t.size)).drop (aQ*t.size),by rw[e4 aw];simp[hI],?_,?_⟩
   ·intro i v dN;rw[List.getElem?_drop,List.getElem?_take]at dN;split at dN
    ·rename_i bu;refine ⟨by rw[Nat.add_assoc,<-yd];exact kx b _ jS (by rw[V];omega),?_⟩;rw[qd g1,Array.getElem?_append_right u];rw[show pre.size+aQ*t.size+i-pre.size=aQ*t.size+i by omega];simpa using dN
    ·cases dN
   ·have:=(g5.take (λx c=>bz.len t x c) E).drop (λx c=>bz.len t x c) aQ
    rwa [List.take_take,Nat.min_eq_left hle]at this
mutual
theorem tD [Env] {ι:Nat->az} {w:bk}: ∀(r:K) (φ:bL) (v:az) (J:List aG) (n:Nat) (I:eN) (aA:List aG) (aJ:Nat),(hn r).go J n=some (I,aA,aJ)->cg φ ι w J->r.rel φ ι w v->
  (∀i∈r.ids,(aF J i).live=true)->aJ=n/\ ∃av,fe φ ι w J av aA/\cF av w I.t I.x v
 | .dat t x,φ,v,J,n,I,aA,aJ,e,h,ar,ad=>by simp only[hn,HM.go,bJ,c0]at e;obtain ⟨rfl,rfl,rfl⟩:=e;exact ⟨rfl,φ,fe.refl h,ar⟩
 | .clip t xs,φ,v,J,n,I,aA,aJ,e,h,ar,ad=>by simp only[hn,HM.go,bJ,c0]at e;obtain ⟨rfl,rfl,rfl⟩:=e;obtain ⟨A,m,rfl,aw⟩:=ar;exact ⟨rfl,φ,fe.refl h,aw,rfl⟩
 | .lim t xs c,φ,v,J,n,I,aA,aJ,e,h,ar,ad=>by simp only[hn,HM.go,bJ,c0]at e;obtain ⟨rfl,rfl,rfl⟩:=e;obtain ⟨A,m,rfl,aw⟩:=ar;exact ⟨rfl,φ,fe.refl h,aw,rfl⟩
 | .nils _ t,φ,v,J,n,I,aA,aJ,e,h,ar,ad=>by simp only[hn,HM.go,bJ,c0]at e;obtain ⟨rfl,rfl,rfl⟩:=e;simp only[K.rel]at ar;subst ar;exact ⟨rfl,φ,fe.refl h,⟨_,_,_,rfl,rfl,ca _,.inl rfl⟩,rfl⟩
 | .own t o,φ,v,J,n,I,aA,aJ,e,h,ar,ad=>by
  have W:=gM (ad o (by simp[K.ids]));obtain ⟨av,g,kx⟩:=M5 h o W;simp only[hn,HM.go]at e;rw[gL J o _ o (Nat.le_of_lt W),if_pos rfl]at e;split at e
  ·rename_i cl ae xs fz hm;obtain ⟨kL,aM,rfl⟩:=oM hm;split at e
   ·rename_i aZ bt;obtain ⟨ox,rfl⟩:=rN bt;injection ox with ox
    subst ox;simp only[HM.go,bJ,c0]at e;obtain ⟨rfl,rfl,rfl⟩:=e;obtain ⟨Ce,aV⟩: ∃Ce,aF J o=.arr cl ae xs Ce:=by cases dB:aF J o<;>rw[dB]at aM<;>simp[aG.freeze]at aM;obtain ⟨rfl,rfl,ab,aE⟩:=aM;obtain rfl:=eq_of_heq ab;exact ⟨_,rfl⟩
    have iE:=g.rel.obj o;rw[gL J o _ o (Nat.le_of_lt W),if_pos rfl,aM]at iE;obtain ⟨rfl,A,m,c,a8⟩:=ar;have aw:=UU iE (λb k L af=>kx _ _ _ _ aV b k L af) (dh:=A) a8 (Nat.zero_le m) (ca m) (λ_=>by cases A<;>simp[Addr.add]);obtain ⟨dh,SA,eD,M,V,_⟩:=iE;rw[a8]at M;injection M with M gy P5
    subst M gy P5;refine ⟨rfl,av,g,?_,by rw[a8];rfl⟩;rw[a8];show bz av w (.list ae) xs [.slice A m c];simpa [<-V] using aw
   ·simp[HM.go]at e
  ·simp[HM.go]at e
 | .view t o aQ E,φ,v,J,n,I,aA,aJ,e,h,ar,ad=>by
  have W:=gM (ad o (by simp[K.ids]));obtain ⟨av,g,kx⟩:=M5 h o W;simp only[hn,HM.go]at e;rw[gL J o _ o (Nat.le_of_lt W),if_pos rfl]at e;split at e
  ·rename_i cl ae xs fz hm;obtain ⟨kL,aM,rfl⟩:=oM hm;split at e
   ·rename_i aZ bt;obtain ⟨ox,rfl⟩:=rN bt;injection ox with ox
    subst ox;simp only[HM.go,bJ,c0]at e;obtain ⟨rfl,rfl,rfl⟩:=e;obtain ⟨Ce,aV⟩: ∃Ce,aF J o=.arr cl ae xs Ce:=by cases dB:aF J o<;>rw[dB]at aM<;>simp[aG.freeze]at aM;obtain ⟨rfl,rfl,ab,aE⟩:=aM;obtain rfl:=eq_of_heq ab;exact ⟨_,rfl⟩
    have iE:=g.rel.obj o;rw[gL J o _ o (Nat.le_of_lt W),if_pos rfl,aM]at iE;obtain ⟨A,m,c,dh,a8,q,G,ab,rfl,e4,_⟩:=ar;exact ⟨rfl,av,g,UU iE (λb k L af=>kx _ _ _ _ aV b k L af) a8 q G e4,rfl⟩
   ·simp[HM.go]at e
  ·simp[HM.go]at e
 | .agg l,φ,v,J,n,I,aA,aJ,e,h,ar,ad=>by obtain ⟨cs,rfl,ar⟩:=ar;obtain ⟨aO,av,g,aw,aV⟩:=aaD l φ cs.toList J n I aA aJ e h ar (λi E=>ad i (by simpa [K.ids] using E));exact ⟨aO,av,g,aw,aV.symm⟩
 | .undef,_,_,_,_,_,_,_,e,_,_,_=>by simp[hn,HM.go]at e
 | .nilv,_,_,_,_,_,_,_,e,_,_,_=>by simp[hn,HM.go]at e
 | .ptr ..,_,_,_,_,_,_,_,e,_,_,_=>by simp[hn,HM.go]at e
 | .fptr ..,_,_,_,_,_,_,_,e,_,_,_=>by simp[hn,HM.go]at e
 | .tup _,_,_,_,_,_,_,_,e,_,_,_=>by simp[hn,HM.go]at e
 | .fn ..,_,_,_,_,_,_,_,e,_,_,_=>by simp[hn,HM.go]at e
 | .iface ..,_,_,_,_,_,_,_,e,_,_,_=>by simp[hn,HM.go]at e
 | .nilI,_,_,_,_,_,_,_,e,_,_,_=>by simp[hn,HM.go]at e
 | .nilF,_,_,_,_,_,_,_,e,_,_,_=>by simp[hn,HM.go]at e
 | .nilP,_,_,_,_,_,_,_,e,_,_,_=>by simp[hn,HM.go]at e
 | .atl _,_,_,_,_,_,_,_,e,_,_,_=>by simp[hn,HM.go]at e
theorem aaD [Env] {ι:Nat->az} {w:bk}: ∀(l:List K) (φ:bL) (cs:List az) (J:List aG) (n:Nat) (I:eN) (aA:List aG) (aJ:Nat),(uS l).go J n=some (I,aA,aJ)->cg φ ι w J->K.relL φ ι w l cs->
  (∀i∈K.idsL l,(aF J i).live=true)->aJ=n/\ ∃av,fe φ ι w J av aA/\bz av w I.t I.x cs/\I.t.isAgg=true
 |[],φ,cs,J,n,I,aA,aJ,e,h,ar,ad=>by simp only[uS,HM.go,bJ,c0]at e;obtain ⟨rfl,rfl,rfl⟩:=e;exact ⟨rfl,φ,fe.refl h,ar,rfl⟩
 |r::l,φ,cs,J,n,I,aA,aJ,e,h,ar,ad=>by
  obtain ⟨v,ba,rfl,q,G⟩:=ar;simp only[uS]at e;obtain ⟨d1,H1,dm,M,e⟩:=HM.go_bind_some e;obtain ⟨d2,ff,ec,V,e⟩:=HM.go_bind_some e;simp only[HM.go,bJ,c0]at e;obtain ⟨rfl,rfl,rfl⟩:=e;obtain ⟨rfl,dE,g1,a8⟩:=tD r φ v J n d1 H1 dm M h q (λi E=>ad i (by simp[K.idsL,E]));obtain ⟨rfl,ee,g2,aw,_⟩:=aaD l dE ba H1 dm d2 ff ec V g1.rel
   (K.relL_mono g1.step.phi g1.step.cells l ba (λ_ _=>rfl) G) (λi E=>by rw[g1.live];exact ad i (by simp[K.idsL,E]))
  exact ⟨rfl,ee,g1.trans g2,⟨_,_,rfl,bz.mono g2.step.phi g2.step.cells _ _ _ a8.1,aw⟩,rfl⟩
end
theorem FN [Env] {ι:Nat->az} {w:bk} {t:aB} {r:K} {φ:bL} {v:az} {J:List aG} {n:Nat} {x:t.den} {aA:List aG} {aJ:Nat} (e:(w4 t r).go J n=some (x,aA,aJ)) (h:cg φ ι w J) (ar:r.rel φ ι w v)
  (ad: ∀i∈r.ids,(aF J i).live=true):aJ=n/\ ∃av,fe φ ι w J av aA/\cF av w t x v:=by
 unfold w4 at e;obtain ⟨I,H1,dm,M,e⟩:=HM.go_bind_some e;rw[HM.go_ofOpt]at e;obtain ⟨y,bt,e⟩:=h9.1 e;simp only[c0]at e;obtain ⟨rfl,rfl,rfl⟩:=e;obtain ⟨aO,av,g,a8⟩:=tD r φ v J n I H1 dm M h ar ad;obtain ⟨I,x⟩:=I;obtain ⟨ox,rfl⟩:=rN bt;simp only at ox;subst ox;exact ⟨aO,av,g,a8⟩
open Go.RowKit
def sN (P:cv) (e:bq) (t:aB) (bytes:Nat):Prop:=
 ∃dO z,P.info? e=some dO/\dO.size=t.size/\dO.bytes=bytes/\0<bytes/\dO.zero=some z/\0<t.size/\z.cells.toList.length=t.size/\ ∀φ w,bz φ w t t.zero z.cells.toList
def nZ (P:cv) (cx:cj) (ty:aB) (f:Nat) (U:bq) (off:Nat):Prop:=
 off=ty.offs f/\ ∃j,cx.ti U=some j/\ty.nth f=some j.ty/\0<j.ty.size
def k6 (P:cv) (cx:cj) (T:bq) (i:gl):Prop:=match i.ty with
 | .bool=>P.underlying T=some .bool
 | .int k=>P.underlying T=some (.int k)
 | .str=>P.underlying T=some .string
 | .list t=>P.underlying T=some (.slice i.elem)/\sN P i.elem t i.bytes/\ ∃ae,cx.ti i.elem=some ae/\ae.ty=t
 | .opq=> ∃I,P.underlying T=some I/\ ∀(x:Nat) (e:bq) dx,I≠ .array x e/\I≠ .struct dx
 |ty=>(i.arr=false/\ ∃dx,P.underlying T=some (.struct dx)/\dx.size=i.fields.length/\ ∀(f:Nat) U,i.fields[f]? =some U-> ∃fd,dx[f]? =some fd/\fd.type=U/\nZ P cx ty f U fd.offset)\/
   (i.arr=true/\ ∃n e dO,P.underlying T=some (.array n e)/\i.fields.length=n/\P.info? e=some dO/\ ∀(f:Nat) U,i.fields[f]? =some U->U=e/\nZ P cx ty f U (f*dO.size))
def ad2 (P:cv) (T:bq) (t:aB):Prop:= ∀(φ:bL) (w:bk) (x y:t.den) (cH hb:az) (ob pC:Operand),cF φ w t x cH->cF φ w t y hb->
 (do eqGuard .eql T ob pC cH hb;binOp .eql T cH hb:Sem az).run P w=.ok (.bool (t.eqb x y)) w/\
 (do eqGuard .neq T ob pC cH hb;binOp .neq T cH hb:Sem az).run P w=.ok (.bool (!(t.eqb x y))) w
def Sy (P:cv) (T:bq) (nm:String) (f:Nat):Prop:= ∀(v:az) (w:bk),(method (P.types.size+Made.depth) T v nm).run P w=.ok (f,v) w
structure akQ (P:cv) (cx:cj) (T:bq) (i:gl):Prop where
 info: ∃info,P.info? T=some info/\info.size=i.ty.size/\ ∀r,cx.zeroRV 20 T=some r-> ∃z,info.zero=some z/\z.cells.size=i.ty.size/\j9 z=i.ty.isAgg/\r.fits i.ty=true/\r.ids=[]/\ ∀φ ι w,r.rel φ ι w z
 desc:k6 P cx T i
 cmp:i.cmp=true->i.ty.cmp=true->i.ty.isAgg=true->ad2 P T i.ty
 iface:i.nil=true-> ∃ms,P.underlying T=some (.interface ms)
 meth: ∀nm f,vV i.meths nm=some f->Sy P T nm f
def cN (P:cv) (cx:cj):Prop:= ∀T i,cx.ti T=some i->akQ P cx T i
theorem hO {cx:cj} {T:bq} {t:aB} (h:cx.isTy T t=true): ∃i,cx.ti T=some i/\i.ty=t:=by
 unfold cj.isTy at h;split at h
 ·rename_i i E;exact ⟨i,E,by simpa using h⟩
 ·cases h
theorem Gk {cx:cj} {T:bq} {t:Option aB} (h:cx.isTyO T t=true): ∃i,cx.ti T=some i/\t=some i.ty:=by
 unfold cj.isTyO at h;split at h
 ·rename_i t;obtain ⟨i,q,G⟩:=hO h;exact ⟨i,q,by rw[G]⟩
 ·cases h
section
variable {P:cv} {cx:cj} {T:bq} {i:gl} {w:bk}
theorem ED (tab:cN P cx) (h:cx.ti T=some i):(sizeOf T).run P w=.ok i.ty.size w:=by obtain ⟨info,q,G,_⟩:=(tab T i h).info;simp[sizeOf,typeInfo,q,G]
theorem Od (tab:cN P cx) (h:cx.ti T=some i):(isAgg T).run P w=.ok i.ty.isAgg w:=by
 have ao:=(tab T i h).desc;unfold k6 at ao;unfold isAgg;split at ao
 ·rename_i e;simp[run_underlying ao,e,aB.isAgg]
 ·rename_i e;simp[run_underlying ao,e,aB.isAgg]
 ·rename_i e;simp[run_underlying ao,e,aB.isAgg]
 ·rename_i e;simp[run_underlying ao.1,e,aB.isAgg]
 ·rename_i e;obtain ⟨I,ao,aO⟩:=ao;rw[e];cases I with
  |array x y=>exact absurd rfl (aO x y #[]).1
  |struct dx=>exact absurd rfl (aO 0 0 dx).2
  |_=>simp[run_underlying ao,aB.isAgg]
 ·rename_i ty q G ab aE bf;have:i.ty.isAgg=true:=by
   cases eH:i.ty with
   |bool=>exact absurd eH q
   |int k=>exact absurd eH (G k)
   |str=>exact absurd eH ab
   |list t=>exact absurd eH (aE t)
   |opq=>exact absurd eH bf
   |unit=>rfl
   |pair a b=>rfl
  rw[this];rcases ao with ⟨_,dx,ao,_⟩|⟨_,n,e,dO,ao,_⟩<;>simp[run_underlying ao]
end
theorem Gm {t ae:aB} {i:Nat} (h:t.nth i=some ae):t.offs i+ae.size<=t.size:=by
 induction t generalizing i with
 |pair a b C6 vD=>
  cases i with
  |zero=>simp[aB.nth]at h;subst h;simp[aB.offs,aB.size]
  |succ i=>have:=vD (i:=i) (by simpa [aB.nth] using h);simp only[aB.offs,aB.size];omega
 |_=>cases i<;>simp[aB.nth]at h
theorem sf {t ae:aB} {p:List Nat} (h:t.at_ p=some ae):t.offAt p+ae.size<=t.size:=by
 induction p generalizing t with
 |nil=>simp[aB.at_]at h;subst h;simp[aB.offAt]
 |cons i p aR=>
  simp only[aB.at_]at h;split at h
  ·rename_i e he;have q:=Gm he;have G:=aR h;simp only[aB.offAt,he];omega
  ·cases h
theorem FP {φ:bL} {w:bk} {t:aB} {x:t.den} {cs:List az} {i:Nat} {I:eN} (h:bz φ w t x cs) (aT:t.proj x i=some I):t.nth i=some I.t/\bz φ w I.t I.x ((cs.drop (t.offs i)).take I.t.size):=by
 induction t generalizing i cs with
 |pair a b C6 vD=>
  obtain ⟨bh,ba,rfl,q,G⟩:=h;cases i with
  |zero=>
   simp only[aB.proj,bJ]at aT;subst aT;refine ⟨rfl,?_⟩;have:=bz.len a _ _ q;simp only[aB.offs,List.drop_zero];rw[<-this,List.take_left];exact q
  |succ i=>
   simp only[aB.proj]at aT;obtain ⟨g1,g2⟩:=vD G aT;refine ⟨g1,?_⟩;simp only[aB.offs];rw[<-bz.len a _ _ q,<-List.drop_drop,List.drop_left];exact g2
 |_=>cases i<;>simp[aB.proj]at aT
theorem ajb {φ:bL} {w:bk} {p:List Nat}: ∀{I e:eN} {cs:List az},bz φ w I.t I.x cs->I.at_ p=some e->I.t.at_ p=some e.t/\bz φ w e.t e.x ((cs.drop (I.t.offAt p)).take e.t.size):=by
 induction p with
 |nil=>
  intro I e cs h aT;simp only[eN.at_,bJ]at aT;subst aT;refine ⟨rfl,?_⟩;simp only[aB.offAt,List.drop_zero];rw[<-bz.len _ _ _ h,ew];exact h
 |cons i p aR=>
  intro I e cs h aT;simp only[eN.at_]at aT;split at aT
  ·rename_i f aM;obtain ⟨g1,g2⟩:=FP h aM;obtain ⟨bd,a6⟩:=aR g2 aT;refine ⟨by simp only[aB.at_,g1,bd],?_⟩;have hle:=sf bd;simp only[aB.offAt,g1];rw[List.drop_take,List.take_take,List.drop_drop,Nat.min_eq_left u]at a6;exact a6
  ·cases aT
mutual
theorem K.rel_fits {φ:bL} {ι:Nat->az} {w:bk}: ∀(r:K) (t:aB) (v:az),r.rel φ ι w v->r.fits t=true->v.cells.size=t.size/\j9 v=t.isAgg
 | .dat ae x,t,v,h,aM=>by
  have e:ae=t:=by simpa [K.fits] using aM
  subst e;exact ⟨by rw[<-bz.len _ _ _ h.1];simp,h.2⟩
 | .nils _ ae,t,v,h,aM=>by
  have e:aB.list ae=t:=by simpa [K.fits] using aM
  subst e;simp only[K.rel]at h;subst h;exact ⟨rfl,rfl⟩
 | .own ae o,t,v,h,aM=>by
  have e:aB.list ae=t:=by simpa [K.fits] using aM
  subst e;obtain ⟨_,A,n,c,rfl⟩:=h;exact ⟨rfl,rfl⟩
 | .agg l,t,v,h,aM=>by obtain ⟨cs,rfl,h⟩:=h;obtain ⟨q,G⟩:=K.relL_fits l t cs.toList h (by simpa [K.fits] using aM);exact ⟨by simpa [Value.cells] using q,by rw[G];rfl⟩
 | .ptr o ae i p,t,v,h,aM=>by
  have e:t=.opq:=by simpa [K.fits] using aM
  subst e;obtain ⟨b,_,_,rfl,_⟩:=h;exact ⟨rfl,rfl⟩
 | .fptr ae x,t,v,h,aM=>by
  have e:t=.opq:=by simpa [K.fits] using aM
  subst e;obtain ⟨b,o,cs,rfl,_⟩:=h;exact ⟨rfl,rfl⟩
 | .fn f a b,t,v,h,aM=>by
  have e:t=.opq:=by simpa [K.fits] using aM
  subst e;obtain ⟨x,y,rfl,_⟩:=h;exact ⟨rfl,rfl⟩
 | .iface T r,t,v,h,aM=>by
  have e:t=.opq:=by simpa [K.fits] using aM
  subst e;obtain ⟨ae,rfl,_⟩:=h;exact ⟨rfl,rfl⟩
 | .nilI,t,v,h,aM=>by
  have e:t=.opq:=by simpa [K.fits] using aM
  subst e;simp only[K.rel]at h;subst h;exact ⟨rfl,rfl⟩
 | .nilF,t,v,h,aM=>by
  have e:t=.opq:=by simpa [K.fits] using aM
  subst e;simp only[K.rel]at h;subst h;exact ⟨rfl,rfl⟩
 | .nilP,t,v,h,aM=>by
  have e:t=.opq:=by simpa [K.fits] using aM
  subst e;simp only[K.rel]at h;subst h;exact ⟨rfl,rfl⟩
 | .undef,_,_,_,aM=>by simp[K.fits]at aM
 | .atl _,_,_,_,aM=>by simp[K.fits]at aM
 | .lim ..,_,_,_,aM=>by simp[K.fits]at aM
 | .yld Y o,t,v,h,aM=>by
  have e:t=.opq:=by simpa [K.fits] using aM
  subst e;obtain ⟨_,l,rfl⟩:=h;exact ⟨rfl,rfl⟩
 | .gp ..,_,_,_,aM=>by simp[K.fits]at aM
 | .dfr ..,_,_,_,aM=>by simp[K.fits]at aM
 | .clip ..,_,_,_,aM=>by simp[K.fits]at aM
 | .nilv,_,_,_,aM=>by simp[K.fits]at aM
 | .view ..,_,_,_,aM=>by simp[K.fits]at aM
 | .tup _,_,_,_,aM=>by simp[K.fits]at aM
theorem K.relL_fits {φ:bL} {ι:Nat->az} {w:bk}: ∀(l:List K) (t:aB) (cs:List az),K.relL φ ι w l cs->K.fitsL l t=true->cs.length=t.size/\t.isAgg=true
 |[],t,cs,h,aM=>by
  have e:t=.unit:=by simpa [K.fitsL] using aM
  subst e;simp only[K.relL]at h;subst h;exact ⟨rfl,rfl⟩
 |r::l,t,cs,⟨v,ba,e,q,G⟩,aM=>by
  subst e;cases t with
  |pair a b=>
   simp only[K.fitsL,bQ]at aM;have g1:=(K.rel_fits r a v q aM.1).1;have g2:=(K.relL_fits l b ba G aM.2).1;exact ⟨by simp[aB.size,g1,g2],rfl⟩
  |_=>simp[K.fitsL]at aM
end
open Go.RowKit
structure iW (J:List aG) (n:Nat) (aA:List aG) (aJ:Nat):Prop where
 le:n<=aJ
 len:J.length<=aA.length
 top:n<=J.length->aJ<=aA.length
 same: ∀i,i<n\/aJ<=i->(aF aA i).live=(aF J i).live
 seq:n=J.length->aA.length=aJ
theorem iW.refl (J:List aG) (n:Nat):iW J n J n:=⟨ca _,ca _,id,λ_ _=>rfl,λh=>h.symm⟩
theorem iW.trans {J aA mL:List aG} {n aJ SA:Nat} (a:iW J n aA aJ) (b:iW aA aJ mL SA):iW J n mL SA:=
 ⟨Nat.le_trans a.le b.le,Nat.le_trans a.len b.len,λh=>b.top (a.top h),λi E=>(b.same i (E.imp (λh=>Nat.lt_of_lt_of_le h a.le) id)).trans (a.same i (E.imp id (λh=>Nat.le_trans b.le h))),λh=>b.seq (a.seq h).symm⟩
theorem fe.nx [Env] {φ:bL} {ι:Nat->az} {w:bk} {J:List aG} {av:bL} {aA:List aG} (g:fe φ ι w J av aA) (n:Nat):iW J n aA n:=
 ⟨ca _,by rw[g.len];exact ca _,λh=>by rw[g.len];exact h,λi _=>g.live i,λh=>by rw[g.len,h]⟩
def cG [Env] (φ:bL) (ι:Nat->az) (w:bk) (J:List aG) (n:Nat) (r:K) (aA:List aG) (aJ:Nat) (run:Result az):Prop:=
 ∃v aq av aH,run=.ok v aq/\cg av aH aq aA/\Step φ ι w J av aH aq aA/\eo ι J aH aA/\iW J n aA aJ/\r.rel av aH aq v/\ ∀i∈r.ids,(aF aA i).live=true
theorem cG.pure [Env] {φ:bL} {ι:Nat->az} {w:bk} {J:List aG} {n:Nat} {r:K} {v:az} (h:cg φ ι w J) (ar:r.rel φ ι w v) (ad: ∀i∈r.ids,(aF J i).live=true) {run:Result az} (e:run=.ok v w):cG φ ι w J n r J n run:=
 ⟨v,w,φ,ι,e,h,Step.refl _ _ _ _,eo.refl _ _,iW.refl _ _,ar,ad⟩
theorem cG.ghost [Env] {φ:bL} {ι:Nat->az} {w:bk} {J:List aG} {n:Nat} {r:K} {v:az} {av:bL} {aA:List aG} (g:fe φ ι w J av aA) (ar:r.rel av ι w v) (ad: ∀i∈r.ids,(aF aA i).live=true) {run:Result az} (e:run=.ok v w):cG φ ι w J n r aA n run:=
 ⟨v,w,av,ι,e,g.rel,g.step,g.keep,g.nx n,ar,ad⟩
def Plain (r:K) (v:az):Prop:=r.ids=[]/\ ∀φ ι w,r.rel φ ι w v
theorem Plain.int (k:IntKind) (a:Int):Plain (.dat (.int k) a) (.int k a):=⟨rfl,λ_ _ _=>cF.int.2 rfl⟩
theorem Plain.bool (a:Bool):Plain (.dat .bool a) (.bool a):=⟨rfl,λ_ _ _=>cF.bool.2 rfl⟩
theorem Plain.str (a:List UInt8):Plain (.dat .str a) (.string ⟨⟨a⟩⟩):=⟨rfl,λ_ _ _=>cF.str.2 rfl⟩
section
variable {P:cv} {J:List aG} {n:Nat} {r:K} {aA:List aG} {aJ:Nat}
theorem aby {op:BinOp} {k:IntKind} {a b:Int} (e:(Bn op k a b).go J n=some (r,aA,aJ)) (q:op≠ .shl) (G:op≠ .shr):
  aA=J/\aJ=n/\ ∃v,Plain r v/\ ∀(w:bk) (T:bq) (x y:Operand),(do eqGuard op T x y (.int k a) (.int k b);binOp op T (.int k a) (.int k b):Sem az).run P w=.ok v w:=by
 cases op<;>simp only[Bn,HM.go,bJ,c0,reduceCtorEq]at e
 case add=>obtain ⟨rfl,rfl,rfl⟩:=e;exact ⟨rfl,rfl,_,Plain.int _ _,λw T x y=>by simp[eqGuard,binOp,Op.intArith]⟩
 case sub=>obtain ⟨rfl,rfl,rfl⟩:=e;exact ⟨rfl,rfl,_,Plain.int _ _,λw T x y=>by simp[eqGuard,binOp,Op.intArith]⟩
 case mul=>obtain ⟨rfl,rfl,rfl⟩:=e;exact ⟨rfl,rfl,_,Plain.int _ _,λw T x y=>by simp[eqGuard,binOp,Op.intArith]⟩
 case quo=>
  by_cases L:b=0
  ·simp[L]at e
  ·simp only[L,decide_false,ay,bJ,c0]at e;obtain ⟨rfl,rfl,rfl⟩:=e;exact ⟨rfl,rfl,_,Plain.int _ _,λw T x y=>by simp[eqGuard,binOp,Op.intDiv,L]⟩
 case rem=>
  by_cases L:b=0
  ·simp[L]at e
  ·simp only[L,decide_false,ay,bJ,c0]at e;obtain ⟨rfl,rfl,rfl⟩:=e;exact ⟨rfl,rfl,_,Plain.int _ _,λw T x y=>by simp[eqGuard,binOp,Op.intDiv,L]⟩
 case and=>obtain ⟨rfl,rfl,rfl⟩:=e;exact ⟨rfl,rfl,_,Plain.int _ _,λw T x y=>by simp[eqGuard,binOp,Op.intBits]⟩
 case or=>obtain ⟨rfl,rfl,rfl⟩:=e;exact ⟨rfl,rfl,_,Plain.int _ _,λw T x y=>by simp[eqGuard,binOp,Op.intBits]⟩
 case xor=>obtain ⟨rfl,rfl,rfl⟩:=e;exact ⟨rfl,rfl,_,Plain.int _ _,λw T x y=>by simp[eqGuard,binOp,Op.intBits]⟩
 case andNot=>obtain ⟨rfl,rfl,rfl⟩:=e;exact ⟨rfl,rfl,_,Plain.int _ _,λw T x y=>by simp[eqGuard,binOp,Op.intBits]⟩
 case eql=>obtain ⟨rfl,rfl,rfl⟩:=e;exact ⟨rfl,rfl,_,Plain.bool _,λw T x y=>by simp[eqGuard,binOp,Op.intCmp];rfl⟩
 case neq=>obtain ⟨rfl,rfl,rfl⟩:=e;exact ⟨rfl,rfl,_,Plain.bool _,λw T x y=>by simp[eqGuard,binOp,Op.intCmp,bne];rfl⟩
 case lss=>obtain ⟨rfl,rfl,rfl⟩:=e;exact ⟨rfl,rfl,_,Plain.bool _,λw T x y=>by simp[eqGuard,binOp,Op.intCmp]⟩
 case leq=>obtain ⟨rfl,rfl,rfl⟩:=e;exact ⟨rfl,rfl,_,Plain.bool _,λw T x y=>by simp[eqGuard,binOp,Op.intCmp]⟩
 case gtr=>obtain ⟨rfl,rfl,rfl⟩:=e;exact ⟨rfl,rfl,_,Plain.bool _,λw T x y=>by simp[eqGuard,binOp,Op.intCmp]⟩
 case geq=>obtain ⟨rfl,rfl,rfl⟩:=e;exact ⟨rfl,rfl,_,Plain.bool _,λw T x y=>by simp[eqGuard,binOp,Op.intCmp]⟩
theorem aa3 {op:BinOp} {k eB:IntKind} {a b:Int} (e:(GP op k a b).go J n=some (r,aA,aJ)):
  aA=J/\aJ=n/\ ∃v,Plain r v/\ ∀(w:bk) (T:bq) (x y:Operand),(do eqGuard op T x y (.int k a) (.int eB b);binOp op T (.int k a) (.int eB b):Sem az).run P w=.ok v w:=by
 cases op<;>simp only[GP,HM.go,reduceCtorEq]at e
 case shl=>
  by_cases L:b<0
  ·simp[L]at e
  ·simp only[L,decide_false,ay,bJ,c0]at e;obtain ⟨rfl,rfl,rfl⟩:=e;exact ⟨rfl,rfl,_,Plain.int _ _,λw T x y=>by simp[eqGuard,binOp,Op.shift,L]⟩
 case shr=>
  by_cases L:b<0
  ·simp[L]at e
  ·simp only[L,decide_false,ay,bJ,c0]at e;obtain ⟨rfl,rfl,rfl⟩:=e;exact ⟨rfl,rfl,_,Plain.int _ _,λw T x y=>by simp[eqGuard,binOp,Op.shift,L]⟩
theorem qm (x:List UInt8):(⟨⟨x⟩⟩:ByteArray).toList=x:=ByteArray.toList_eq _
theorem uF (a b:List UInt8):(a==b)=decide (a=b):=by rw[Bool.eq_iff_iff];simp
theorem asu {op:BinOp} {a b:List UInt8} (e:(PV op a b).go J n=some (r,aA,aJ)):
  aA=J/\aJ=n/\ ∃v,Plain r v/\ ∀(w:bk) (T:bq) (x y:Operand),(do eqGuard op T x y (.string ⟨⟨a⟩⟩) (.string ⟨⟨b⟩⟩);binOp op T (.string ⟨⟨a⟩⟩) (.string ⟨⟨b⟩⟩):Sem az).run P w=.ok v w:=by
 cases op<;>simp only[PV,HM.chk,HM.go,bJ,c0,reduceCtorEq]at e
 case add=>
  by_cases L:a.length+b.length<=am
  ·simp only[L,cJ,an,bJ,c0]at e;obtain ⟨rfl,rfl,rfl⟩:=e;refine ⟨rfl,rfl,.string ⟨⟨a++b⟩⟩,Plain.str _,λw T x y=> ?_⟩;have q:(⟨⟨a⟩⟩:ByteArray).size=a.length:=rfl;have G:(⟨⟨b⟩⟩:ByteArray).size=b.length:=rfl;have hm:IntKind.i64.max=9223372036854775807:=rfl;unfold am at L;have aE:(⟨⟨a⟩⟩:ByteArray)++(⟨⟨b⟩⟩:ByteArray)=⟨⟨a++b⟩⟩:=by apply ByteArray.ext;simp[ByteArray.data_append]
   simp only[eqGuard,binOp,Op.stringOp,q,G,aE];simp;omega
  ·simp[L]at e
 case eql=>obtain ⟨rfl,rfl,rfl⟩:=e;exact ⟨rfl,rfl,_,Plain.bool _,λw T x y=>by simp[eqGuard,binOp,Op.stringOp,qm,uF]⟩
 case neq=>obtain ⟨rfl,rfl,rfl⟩:=e;exact ⟨rfl,rfl,_,Plain.bool _,λw T x y=>by simp[eqGuard,binOp,Op.stringOp,qm,uF]⟩
 case lss=>obtain ⟨rfl,rfl,rfl⟩:=e;exact ⟨rfl,rfl,_,Plain.bool _,λw T x y=>by simp[eqGuard,binOp,Op.stringOp,qm]⟩
 case leq=>obtain ⟨rfl,rfl,rfl⟩:=e;exact ⟨rfl,rfl,_,Plain.bool _,λw T x y=>by simp[eqGuard,binOp,Op.stringOp,qm,uF]⟩
 case gtr=>obtain ⟨rfl,rfl,rfl⟩:=e;exact ⟨rfl,rfl,_,Plain.bool _,λw T x y=>by simp[eqGuard,binOp,Op.stringOp,qm,uF]⟩
 case geq=>obtain ⟨rfl,rfl,rfl⟩:=e;exact ⟨rfl,rfl,_,Plain.bool _,λw T x y=>by simp[eqGuard,binOp,Op.stringOp,qm]⟩
end
open Go.RowKit
section
variable {P:cv} {cx:cj} {φ:bL} {ι:Nat->az} {w:bk} {J:List aG} {n:Nat} {r:K} {aA:List aG} {aJ:Nat}
theorem cG.plain [Env] {v:az} (h:cg φ ι w J) (aT:Plain r v) {run:Result az} (e:run=.ok v w):cG φ ι w J n r J n run:=
 cG.pure h (aT.2 φ ι w) (by rw[aT.1];simp) e
theorem WG {T:bq} (ao:P.underlying T=some .bool) (I:Nat) (a b:Bool) (w:bk):(Op.equalIn (I+1) T (.bool a) (.bool b)).run P w=.ok (a==b) w:=by simp[Op.equalIn,run_underlying ao]
theorem YB {T:bq} (ao:P.underlying T=some .bool) (a b:Bool) (w:bk):(Op.equal T (.bool a) (.bool b)).run P w=.ok (a==b) w:=WG ao 9999 a b w
theorem aqk [Env] (tab:cN P cx) {op:BinOp} {T:bq} {x y:K} (e:(PR cx op T x y).go J n=some (r,aA,aJ)) (h:cg φ ι w J) {cH hb:az} (al:x.rel φ ι w cH) (bt:y.rel φ ι w hb)
  (fG: ∀i∈x.ids,(aF J i).live=true) (tk: ∀i∈y.ids,(aF J i).live=true) (ob pC:Operand):
  cG φ ι w J n r aA aJ ((do eqGuard op T ob pC cH hb;binOp op T cH hb:Sem az).run P w):=by
 unfold PR at e;split at e
 ·rename_i k a eB b;obtain rfl:=cF.int.1 al;obtain rfl:=cF.int.1 bt;split at e
  ·obtain ⟨rfl,rfl,v,aT,ar⟩:=aa3 (P:=P) (eB:=eB) e;exact cG.plain h aT (ar w T ob pC)
  ·obtain ⟨rfl,rfl,v,aT,ar⟩:=aa3 (P:=P) (eB:=eB) e;exact cG.plain h aT (ar w T ob pC)
  ·rename_i q G;by_cases af:k=eB
   ·subst af;simp only[cJ,an]at e;obtain ⟨rfl,rfl,v,aT,ar⟩:=aby (P:=P) e q G;exact cG.plain h aT (ar w T ob pC)
   ·simp[af,HM.go]at e
 ·rename_i a b;obtain rfl:=cF.str.1 al;obtain rfl:=cF.str.1 bt;obtain ⟨rfl,rfl,v,aT,ar⟩:=asu (P:=P) e;exact cG.plain h aT (ar w T ob pC)
 ·rename_i k a m;obtain rfl:=cF.int.1 al;obtain ⟨c,rfl,aw⟩: ∃c:Nat,hb=.int .i64 (c:Int)/\m<=c:=bt;split at e
  ·by_cases af:k=.i64
   ·subst af;simp only[cJ,an]at e;obtain ⟨L,e⟩:=HM.go_chk e;simp only[HM.go,bJ,c0]at e;obtain ⟨rfl,rfl,rfl⟩:=e;have L: @LE.le Int _ a (m:Int):=of_decide_eq_true L;have aM:decide (@GT.gt Int _ a (c:Int))=false:=decide_eq_false u;have V:(Bn .gtr .i64 a (c:Int)).go J n=some (.dat .bool false,J,n):=by simp only[Bn,HM.go,aM]
    obtain ⟨-,-,v,aT,ar⟩:=aby (P:=P) V aU aU;exact cG.plain h aT (ar w T ob pC)
   ·simp[af,HM.go]at e
  ·simp[HM.go]at e
 ·rename_i a b;obtain rfl:=cF.bool.1 al;obtain rfl:=cF.bool.1 bt;by_cases bW:cx.isTy T .bool=true
  ·obtain ⟨i,E,eH⟩:=hO bW;have ao:=(tab T i E).desc;unfold k6 at ao;rw[eH]at ao;simp only at ao;rw[bW]at e;simp only[an]at e;cases op<;>simp only[HM.go,bJ,c0,reduceCtorEq]at e
   case eql=>
    obtain ⟨rfl,rfl,rfl⟩:=e;refine cG.plain h (Plain.bool _) ?_;simp only[eqGuard,binOp,Sem.run_bind,Sem.run_pure,Result.andThen_ok,YB ao];simp
   case neq=>
    obtain ⟨rfl,rfl,rfl⟩:=e;refine cG.plain h (Plain.bool _) ?_;simp only[eqGuard,binOp,Sem.run_bind,Sem.run_pure,Result.andThen_ok,YB ao];simp
  ·simp[bW,HM.go]at e
 ·split at e
  ·rename_i i E;by_cases aw:(i.cmp&&i.ty.cmp&&i.ty.isAgg)=true
   ·rw[aw]at e;simp only[an]at e;simp only[bQ]at aw;obtain ⟨a,H1,dm,M,a1⟩:=HM.go_bind_some e;clear e;obtain ⟨b,ff,ec,V,e⟩:=HM.go_bind_some a1;clear a1;obtain ⟨rfl,dE,g1,v1⟩:=FN M h al fG;obtain ⟨rfl,ee,g2,v2⟩:=FN V g1.rel (K.rel_step g1.step g1.keep tk bt) (λi E=>by rw[g1.live];exact tk i E);have v1:=v1.mono g2.step.phi g2.step.cells;have aN:=(tab T i E).cmp aw.1.1 aw.1.2 aw.2 ee w a b cH hb ob pC v1 v2;cases op<;>simp only[HM.go,bJ,c0,reduceCtorEq]at e
    case eql=>
     obtain ⟨rfl,rfl,rfl⟩:=e;exact cG.ghost (g1.trans g2) ((Plain.bool _).2 _ _ _) (by simp[K.ids]) aN.1
    case neq=>
     obtain ⟨rfl,rfl,rfl⟩:=e;exact cG.ghost (g1.trans g2) ((Plain.bool _).2 _ _ _) (by simp[K.ids]) aN.2
   ·simp only[Bool.not_eq_true]at aw;rw[aw]at e;simp[HM.go]at e
  ·simp[HM.go]at e
theorem asc [Env] {op:UnOp} {x:K} (e:(Lf op x).go J n=some (r,aA,aJ)) (h:cg φ ι w J) {cH:az} (al:x.rel φ ι w cH):cG φ ι w J n r aA aJ ((Op.unary op cH).run P w):=by
 unfold Lf at e;split at e
 ·obtain rfl:=cF.int.1 al;simp only[HM.go,bJ,c0]at e;obtain ⟨rfl,rfl,rfl⟩:=e;exact cG.plain h (Plain.int _ _) (by simp[Op.unary,Op.intArith])
 ·obtain rfl:=cF.bool.1 al;simp only[HM.go,bJ,c0]at e;obtain ⟨rfl,rfl,rfl⟩:=e;exact cG.plain h (Plain.bool _) (by simp[Op.unary])
 ·obtain rfl:=cF.int.1 al;simp only[HM.go,bJ,c0]at e;obtain ⟨rfl,rfl,rfl⟩:=e;exact cG.plain h (Plain.int _ _) (by simp[Op.unary,Op.intBits])
 ·simp[HM.go]at e
def oZ (t:aB) (cs:List az):az:=if t.isAgg then .agg cs.toArray else cs.headD undef
theorem asV {v:az} (h:v.oneCell'=true):j9 v=false:=by cases v<;>first |rfl |(simp[Value.oneCell']at h)
theorem cF.of {t:aB} {x:t.den} {cs:List az} (h:bz φ w t x cs):cF φ w t x (oZ t cs)/\(oZ t cs).cells.toList=cs:=by
 unfold oZ;by_cases aV:t.isAgg=true
 ·rw[if_pos aV];have:(Value.agg cs.toArray).cells.toList=cs:=by simp[Value.cells]
  exact ⟨⟨by rw[this];exact h,by rw[aV];rfl⟩,this⟩
 ·simp only[Bool.not_eq_true]at aV;rw[if_neg (by simp[aV])];have ad:=h.len;have ah:t.size=1:=by cases t<;>first |rfl |(simp[aB.isAgg]at aV)
  rw[ah]at ad;obtain ⟨v,rfl⟩:=List.length_eq_one_iff.1 ad;have a8:=asV (h.one _ _ _ v aU);have aw:v.cells.toList=[v]:=by rw[rG a8]
  simp only[List.headD_cons];exact ⟨⟨by rw[aw];exact h,a8.trans aV.symm⟩,aw⟩
theorem abf {i:Nat} {t:aB} {x d:K} {v:az} (ar:x.rel φ ι w v) (aM:x.fits t=true) (aw:x.comp i=some d):
  ∃ae aP,t.nth i=some ae/\d.rel φ ι w aP/\d.fits ae=true/\aP.cells.toList=(v.cells.toList.drop (t.offs i)).take ae.size/\j9 aP=ae.isAgg/\ ∀j∈d.ids,j∈x.ids:=by
 unfold K.comp at aw;split at aw
 ·rename_i l i;obtain ⟨cs,rfl,ar⟩:=ar;simp only[K.fits]at aM
  suffices bg: ∀(l:List K) (t:aB) (cs:List az) (i:Nat),K.relL φ ι w l cs->K.fitsL l t=true->l[i]? =some d->
    ∃ae aP,t.nth i=some ae/\d.rel φ ι w aP/\d.fits ae=true/\aP.cells.toList=(cs.drop (t.offs i)).take ae.size/\j9 aP=ae.isAgg/\ ∀j∈d.ids,j∈K.idsL l by
   simpa [K.ids,Value.cells] using bg _ t cs.toList _ ar aM aw
  intro l
  induction l with
  |nil=>intro t cs i _ _ h;simp at h
  |cons a l aR=>
   intro t cs i ar aM E;obtain ⟨v,ba,rfl,q,G⟩:=ar;cases t with
   |pair p s=>
    simp only[K.fitsL,bQ]at aM;obtain ⟨g1,g2⟩:=K.rel_fits a p v q aM.1;cases i with
    |zero=>
     simp only[List.getElem?_cons_zero,bJ]at E;subst E;refine ⟨p,v,rfl,q,aM.1,?_,g2,λj ak=>by simp[K.idsL,ak]⟩;simp only[aB.offs,List.drop_zero];rw[<-g1,show v.cells.size=v.cells.toList.length by simp,List.take_left]
    |succ i=>
     obtain ⟨ae,aP,bd,a6,cp,eh,gZ,ir⟩:=aR s ba i G aM.2 (by simpa using E);refine ⟨ae,aP,bd,a6,cp,?_,gZ,λj ak=>by simp[K.idsL,ir j ak]⟩;simp only[aB.offs];rw[<-g1,show v.cells.size=v.cells.toList.length by simp,<-List.drop_drop,List.drop_left];exact eh
   |_=>simp[K.fitsL]at aM
 ·rename_i rp ae x;have e:ae=t:=by simpa [K.fits] using aM
  subst e;obtain ⟨I,ao,rfl⟩:=h9.1 aw;obtain ⟨g1,g2⟩:=FP ar.1 ao;obtain ⟨bd,a6⟩:=cF.of g2;exact ⟨I.t,_,g1,bd,by simp[K.fits],a6,bd.2,by simp[K.ids]⟩
 ·cases aw
theorem anu {T:bq} {ms:Array (String×bq)} (hu:P.underlying T=some (.interface ms)) (I:Nat) (U:bq) (ae:az) (w:bk):(Op.equalIn (I+1) T (.iface U ae) .nilIface).run P w=.ok false w:=by simp[Op.equalIn,run_underlying hu]
theorem anv {T:bq} {ms:Array (String×bq)} (hu:P.underlying T=some (.interface ms)) (I:Nat) (w:bk):(Op.equalIn (I+1) T .nilIface .nilIface).run P w=.ok true w:=by simp[Op.equalIn,run_underlying hu]
theorem aqg {T:bq} {ms:Array (String×bq)} (hu:P.underlying T=some (.interface ms)):(∀U ae,(Op.equal T (.iface U ae) .nilIface).run P w=.ok false w)/\(Op.equal T .nilIface .nilIface).run P w=.ok true w:=
 ⟨λU ae=>anu hu 9999 U ae w,anv hu 9999 w⟩
theorem aqS [Env] (tab:cN P cx) {op:BinOp} {T:bq} {x:K} (e:(PT cx op T x).go J n=some (r,aA,aJ)) (h:cg φ ι w J) {cH:az} (al:x.rel φ ι w cH) (fG: ∀i∈x.ids,(aF J i).live=true) (ob:Operand) (y:az) (bt:y=.nilIface:=by rfl):
  cG φ ι w J n r aA aJ ((do eqGuard op T ob (.const y) cH .nilIface;binOp op T cH .nilIface:Sem az).run P w):=by
 subst bt;unfold PT at e;split at e
 ·rename_i i E;cases aO:i.nil
  ·simp[aO,HM.go]at e
  ·rw[aO,an]at e;obtain ⟨ms,hu⟩:=(tab T i E).iface aO;obtain ⟨bw,bS⟩:=aqg (w:=w) hu;split at e
   ·simp only[HM.go,bJ,c0]at e;obtain ⟨rfl,rfl,rfl⟩:=e;obtain ⟨ae,rfl,-⟩:=al;refine cG.plain h (Plain.bool _) ?_;simp[eqGuard,binOp,bw,bS]
   ·simp only[HM.go,bJ,c0]at e;obtain ⟨rfl,rfl,rfl⟩:=e;obtain ⟨ae,rfl,-⟩:=al;refine cG.plain h (Plain.bool _) ?_;simp[eqGuard,binOp,bw,bS]
   ·simp only[HM.go,bJ,c0]at e;obtain ⟨rfl,rfl,rfl⟩:=e;obtain rfl:cH=.nilIface:=al;refine cG.plain h (Plain.bool _) ?_;simp[eqGuard,binOp,bw,bS]
   ·simp only[HM.go,bJ,c0]at e;obtain ⟨rfl,rfl,rfl⟩:=e;obtain rfl:cH=.nilIface:=al;refine cG.plain h (Plain.bool _) ?_;simp[eqGuard,binOp,bw,bS]
   ·simp[HM.go]at e
 ·simp[HM.go]at e
end
open Go.RowKit
section
variable {P:cv} {cx:cj} {φ:bL} {ι:Nat->az} {w:bk} {J:List aG} {n:Nat} {r:K} {aA:List aG} {aJ:Nat}
theorem h2 {t:aB} {x:t.den} {v:az} (h:cF φ w t x v):(K.dat t x).rel φ ι w v:=h
theorem U1 {v:az} {cs:List az} {t:aB} (q:v.cells.toList=cs) (G:j9 v=t.isAgg):v=oZ t cs:=by
 unfold oZ;by_cases aV:t.isAgg=true
 ·rw[if_pos aV];obtain ⟨c,rfl⟩:=uT (G.trans aV);simp only[Value.cells]at q;rw[<-q]
 ·simp only[Bool.not_eq_true]at aV;rw[if_neg (by simp[aV])];rw[rG (G.trans aV)]at q;subst q;rfl
theorem aqi {p:List Nat}: ∀{t:aB} {x d:K} {v:az},x.rel φ ι w v->x.fits t=true->x.atPath p=some d->
  ∃ae aP,t.at_ p=some ae/\d.rel φ ι w aP/\d.fits ae=true/\aP.cells.toList=(v.cells.toList.drop (t.offAt p)).take ae.size/\j9 aP=ae.isAgg/\ ∀j∈d.ids,j∈x.ids:=by
 induction p with
 |nil=>
  intro t x d v ar aM aT;simp only[K.atPath,bJ]at aT;subst aT;obtain ⟨g1,g2⟩:=K.rel_fits x t v ar aM;refine ⟨t,v,rfl,ar,aM,?_,g2,λj ak=>ak⟩;simp only[aB.offAt,List.drop_zero];rw[<-g1,show v.cells.size=v.cells.toList.length by simp,ew]
 |cons i p aR=>
  intro t x d v ar aM aT;simp only[K.atPath]at aT;split at aT
  ·rename_i y bt;obtain ⟨ae,aP,bd,a6,cp,eh,gZ,ir⟩:=abf ar aM bt;obtain ⟨iU,wD,dy,de,nQ,rB,awn,IK⟩:=aR a6 cp aT;refine ⟨iU,wD,by simp only[aB.at_,bd,dy],de,nQ,?_,awn,λj ak=>ir j (IK j ak)⟩;have hle:=sf dy;rw[rB,eh];simp only[aB.offAt,bd];rw[List.drop_take,List.take_take,List.drop_drop,Nat.min_eq_left u]
  ·cases aT
theorem Ks (tab:cN P cx) {T:bq} {i:gl} (E:cx.ti T=some i) {b o:Nat} {cs:List az} (ad:cs.length=i.ty.size) (aw: ∀j v,cs[j]? =some v->w.cell? ⟨b,o+j,none⟩=some v):
  (loadVar T ⟨b,o,none⟩).run P w=.ok (oZ i.ty cs) w:=by
 unfold loadVar;simp only[Sem.run_bind,Od tab E,Result.andThen_ok];unfold oZ;by_cases aV:i.ty.isAgg=true
 ·rw[if_pos aV,if_pos aV];have:=run_loadCells_list (P:=P) w ⟨b,o,none⟩ cs (λj v ak=>by rw[hI];exact aw j v ak);simp only[Sem.run_bind,ED tab E,Result.andThen_ok,<-ad,this,Sem.run_pure]
 ·simp only[Bool.not_eq_true]at aV;have ah:i.ty.size=1:=by cases h:i.ty<;>first |rfl |(rw[h]at aV;simp[aB.isAgg]at aV)
  rw[ah]at ad;obtain ⟨v,rfl⟩:=List.length_eq_one_iff.1 ad;have:=aw 0 v rfl;simp only[Nat.add_zero]at this;simp[aV,load,Sem.run,this]
theorem iO {A dh:Option Addr} {n aJ c eD:Nat} (h:Value.slice A n c=.slice dh aJ eD):A=dh/\n=aJ/\c=eD:=by injection h with a b c;exact ⟨a,b,c⟩
theorem adG [Env] (h:cg φ ι w J) {o:Nat} {e:bq} {t:aB} {xs:List t.den} {fz:Bool} (W:aF J o=.arr e t xs fz) {i:Nat} {p:List Nat} {v:az} (ar:(K.ptr o t i p).rel φ ι w v):
  ∃b cur c6 k,v=.pointer (some ⟨b,k+i*t.size+t.offAt p,none⟩)/\w.heap[b]? =some (.cells cur e c6)/\sQ c6 cur.size/\(∀v∈cur.toList,v.oneCell'=true)/\i<xs.length/\k+(i+1)*t.size<=cur.size/\dM (ι o)=some b/\
   bz φ w t (xs.getD i t.zero) ((cur.toList.drop (k+i*t.size)).take t.size)/\sA (ι o)=k:=by
 obtain ⟨b,k,L,rfl,aT⟩:=ar;have cq:=h.obj o;rw[W]at cq;rcases L with ⟨n,c,L,E⟩|⟨L,_⟩
 ·obtain ⟨A,aJ,eD,M,V,a1,bp,bg⟩:=cq;rw[L]at M;obtain ⟨rfl,rfl,rfl⟩:=iO M;rcases bg with bg |⟨bX,pre,cur,c6,cI,g1,g2,g3,g0,g4,g5,g6,g7⟩
  ·omega
  ·injection cI with cI
   injection cI with cI atN
   subst cI atN;have hle:(i+1)*t.size<=n*t.size:=gV _ E;have Rn:n*t.size<=c*t.size:=gV _ a1;have oD: ∀v∈(pre++cur).toList,v.oneCell'=true:=λv a8=>by
    rw[Array.toList_append]at a8;rcases dp.1 a8 with a8 |a8
    ·exact g0 v a8
    ·exact g4.one v a8
   refine ⟨b,pre++cur,c6,pre.size,rfl,g1,by rw[Array.size_append];exact g3.ok,oD,u,by rw[Array.size_append];omega,by rw[L];simp[dM];omega,?_,by rw[L];rfl⟩;have auK:(pre++cur).toList.drop (pre.size+i*t.size)=cur.toList.drop (i*t.size):=by rw[Array.toList_append,<-List.drop_drop,show pre.size=pre.toList.length by simp,List.drop_left]
   rw[auK];have al:xs[i]? =some (xs.getD i t.zero):=by rw[jN,hr u];rfl
   have bC:=g5.get (λx c=>bz.len t x c) _ _ i _ al;rw[Nat.add_mul,Nat.one_mul]at hle;rw[List.drop_take,List.take_take,Nat.min_eq_left u]at bC;exact bC
 ·obtain ⟨A,aJ,eD,M,_⟩:=cq;rw[L]at M;cases M
theorem adH [Env] (h:cg φ ι w J) {o:Nat} {T:bq} {t:aB} {x:K} (W:aF J o=.box T t x) {i:Nat} {p:List Nat} {v:az} (ar:(K.ptr o t i p).rel φ ι w v):
  ∃b cur c6 ae,v=.pointer (some ⟨b,t.offAt p,none⟩)/\w.heap[b]? =some (.cells cur T c6)/\cur.size=t.size/\sQ c6 cur.size/\(∀v∈cur.toList,v.oneCell'=true)/\x.rel φ ι w ae/\ae.cells=cur/\x.fits t=true/\dM (ι o)=some b:=by
 obtain ⟨b,k,L,rfl,aT⟩:=ar;have cq:=h.obj o;rw[W]at cq;obtain ⟨bX,cur,c6,ae,M,g1,g2,g3,g4,g5,g6,g7,g8⟩:=cq;rcases L with ⟨n,c,L,E⟩|⟨L,E⟩
 ·rw[L]at M;cases M
 ·rw[L]at M;injection M with M
  injection M with M
  injection M with M
  subst M;exact ⟨b,cur,c6,ae,by rw[E.1,E.2];simp,g1,g2,g3,g4,g5,g6,g7,by rw[L];rfl⟩
theorem Z8 [Env] (tab:cN P cx) {T:bq} {a:K} (e:(A5 cx T a).go J n=some (r,aA,aJ)) (h:cg φ ι w J) {mG:az} (aV:a.rel φ ι w mG):
  aA=J/\aJ=n/\ ∃v,(Instr.loadAt T mG).run P w=.ok v w/\(do loadVar T (<-asAddr mG):Sem az).run P w=.ok v w/\r.rel φ ι w v/\ ∀i∈r.ids,(aF J i).live=true:=by
 unfold A5 at e;split at e
 ·rename_i b off l;by_cases bW:cx.isTy T .opq=true
  ·obtain ⟨i,E,eH⟩:=hO bW;rw[bW]at e;simp only[an]at e;cases l with
   |nil=>simp[HM.ofOpt,HM.bind,HM.go]at e
   |cons x l=>
    simp only[List.head?,HM.ofOpt,HM.bind,HM.go,bJ,c0]at e;obtain ⟨rfl,rfl,rfl⟩:=e;obtain ⟨rfl,gB⟩:=aV;have aw:=(gB 0 (mX x) rfl).2;have eU:=Ks (w:=w) tab E (cs:=[mX x]) (b:=b) (o:=off) (by rw[eH];rfl) (λj v ak=>by
     cases j with
     |zero=>
      obtain rfl:mX x=v:=by simpa using ak
      exact aw
     |succ j=>simp at ak)
    have a8:oZ i.ty [mX x]=mX x:=by rw[eH];rfl
    rw[a8]at eU;refine ⟨rfl,rfl,mX x,?_,?_,?_,?_⟩
    ·simp[Instr.loadAt,Instr.sureAddr,asAddr,eU]
    ·simp[asAddr,eU]
    ·cases x with
     |none=>rfl
     |some f=>exact ⟨#[],#[],rfl,rfl,rfl⟩
    ·cases x<;>simp[aei,K.ids,K.idsL]
  ·simp[bW,HM.go]at e
 ·rename_i t v;by_cases bW:cx.isTy T t=true
  ·obtain ⟨i,E,rfl⟩:=hO bW;rw[bW]at e;simp only[an,HM.go,bJ,c0]at e;obtain ⟨rfl,rfl,rfl⟩:=e;obtain ⟨b,o,cs,rfl,gB,aw⟩:=aV;have eU:=Ks (w:=w) tab E (aw.len) (λj v ak=>(gB j v ak).2);refine ⟨rfl,rfl,_,?_,?_,h2 (cF.of aw).1,by simp[K.ids]⟩<;>simp[Instr.loadAt,Instr.sureAddr,asAddr,eU]
  ·simp[bW,HM.go]at e
 ·rename_i o d i p;by_cases bW:cx.isTyO T (d.at_ p)=true
  ·obtain ⟨ti,E,gB⟩:=Gk bW;rw[bW]at e;simp only[an,HM.go]at e;split at e
   ·rename_i cl t xs fz hm;obtain ⟨kL,W,rfl⟩:=oM hm;by_cases gE:d=t
    ·subst gE;simp only[cJ,an]at e;obtain ⟨I,H1,dm,M,V⟩:=HM.go_bind_some e;rw[HM.go_ofOpt]at M;obtain ⟨lH,ao,M⟩:=h9.1 M;simp only[c0]at M;obtain ⟨rfl,rfl,rfl⟩:=M;simp only[HM.go,bJ,c0]at V;obtain ⟨rfl,rfl,rfl⟩:=V;obtain ⟨b,cur,c6,dq,rfl,g1,g2,g3,g4,g5,g6,g7,-⟩:=adG h W aV;obtain ⟨bd,a6⟩:=ajb (I:=⟨d,xs.getD i d.zero⟩) g7 ao;simp only at bd a6;rw[gB]at bd;injection bd with bd
     have hle:=sf gB;have ad:=a6.len;have eU:=Ks (w:=w) (b:=b) (o:=dq+i*d.size+d.offAt p) tab E (by rw[bd];exact ad) (λj v ak=>by
      rw[List.drop_take,List.take_take,List.drop_drop]at ak;rw[List.getElem?_take]at ak;split at ak
      ·rw[List.getElem?_drop]at ak;rw[qd g1];simpa using ak
      ·cases ak)
     refine ⟨rfl,rfl,_,?_,?_,h2 (cF.of a6).1,by simp[K.ids]⟩<;>simp[Instr.loadAt,Instr.sureAddr,asAddr,eU,bd]
    ·simp[gE,HM.go]at e
   ·rename_i E3 t x hm;have W:=aiY hm;by_cases gE:d=t
    ·subst gE;simp only[cJ,an]at e;rw[HM.go_ofOpt]at e;obtain ⟨y,bt,e⟩:=h9.1 e;simp only[c0]at e;obtain ⟨rfl,rfl,rfl⟩:=e;obtain ⟨b,cur,c6,ae,rfl,g1,g2,g3,g4,g5,rfl,g7,g8⟩:=adH h W aV;obtain ⟨ty,aP,bd,a6,cp,eh,gZ,ir⟩:=aqi g5 g7 bt;rw[gB]at bd;injection bd with bd
     subst bd;have hle:=sf gB;have ad:(aP.cells.toList).length=ti.ty.size:=by rw[eh];simp;omega
     have eU:=Ks (w:=w) (b:=b) (o:=d.offAt p) (cs:=aP.cells.toList) tab E ad (λj v ak=>by
      rw[eh,List.getElem?_take]at ak;split at ak
      ·rw[List.getElem?_drop]at ak;rw[qd g1];simpa using ak
      ·cases ak)
     refine ⟨rfl,rfl,_,?_,?_,a6,λj ak=>h.idsB o _ _ _ W j (ir j ak)⟩<;>simp[Instr.loadAt,Instr.sureAddr,asAddr,eU,<-U1 rfl gZ]
    ·simp[gE,HM.go]at e
   ·simp[HM.go]at e
  ·simp[bW,HM.go]at e
 ·simp[HM.go]at e
theorem apo [Env] (tab:cN P cx) {T:bq} {a:K} (e:(A5 cx T a).go J n=some (r,aA,aJ)) (h:cg φ ι w J) {mG:az} (aV:a.rel φ ι w mG):
  cG φ ι w J n r aA aJ ((Instr.loadAt T mG).run P w):=by
 obtain ⟨q,G,v,ab,-,aE,bf⟩:=Z8 tab e h aV;subst q G;exact cG.pure h aE bf ab
end
open Go.RowKit
theorem abQ (t:aB) (p s:List Nat):t.at_ (p++s)=(t.at_ p).bind λae=>ae.at_ s:=by
 induction p generalizing t with
 |nil=>simp[aB.at_]
 |cons i p aR=>
  simp only[List.cons_append,aB.at_];cases t.nth i with
  |none=>rfl
  |some ae=>exact aR ae
theorem aae {t ae:aB} {p s:List Nat} (h:t.at_ p=some ae):t.offAt (p++s)=t.offAt p+ae.offAt s:=by
 induction p generalizing t with
 |nil=>simp[aB.at_]at h;subst h;simp[aB.offAt]
 |cons i p aR=>
  simp only[aB.at_]at h;split at h
  ·rename_i e he;simp only[List.cons_append,aB.offAt,he];rw[aR h,Nat.add_assoc]
  ·cases h
section
variable {P:cv} {cx:cj} {φ:bL} {ι:Nat->az} {w:bk} {J:List aG} {n:Nat} {r:K} {aA:List aG} {aJ:Nat}
theorem go_ret {α:Type} {a b:α} {J aA:List aG} {n aJ:Nat} (e:(HM.ret a).go J n=some (b,aA,aJ)):b=a/\aA=J/\aJ=n:=by simp only[HM.go,bJ,c0]at e;exact ⟨e.1.symm,e.2.1.symm,e.2.2.symm⟩
theorem go_opt {α:Type} {o:Option α} {b:α} {J aA:List aG} {n aJ:Nat} (e:(HM.ofOpt o).go J n=some (b,aA,aJ)):o=some b/\aA=J/\aJ=n:=by rw[HM.go_ofOpt]at e;obtain ⟨a,aV,e⟩:=h9.1 e;simp only[c0]at e;obtain ⟨rfl,rfl,rfl⟩:=e;exact ⟨aV,rfl,rfl⟩
theorem go_bif {α:Type} {b:Bool} {x:HM α} {J:List aG} {n:Nat} {r:α×List aG×Nat} (e:(bif b then x else .fail).go J n=some r):b=true/\x.go J n=some r:=by
 cases b
 ·simp[HM.go]at e
 ·exact ⟨rfl,e⟩
theorem Ar (tab:cN P cx) {T:bq} {i:gl} (E:cx.ti T=some i) {f:Nat} {ae:bq} (aM:i.fields[f]? =some ae):
  (i.arr=false/\ ∃dx fd,P.underlying T=some (.struct dx)/\dx[f]? =some fd/\fd.type=ae/\nZ P cx i.ty f ae fd.offset)\/
   (i.arr=true/\ ∃e dO,P.underlying T=some (.array i.fields.length e)/\P.info? e=some dO/\ae=e/\nZ P cx i.ty f ae (f*dO.size))\/i.ty.isAgg=false:=by
 have ao:=(tab T i E).desc;unfold k6 at ao;split at ao
 ·rename_i e;exact .inr (.inr (by rw[e];rfl))
 ·rename_i e;exact .inr (.inr (by rw[e];rfl))
 ·rename_i e;exact .inr (.inr (by rw[e];rfl))
 ·rename_i e;exact .inr (.inr (by rw[e];rfl))
 ·rename_i e;exact .inr (.inr (by rw[e];rfl))
 ·rcases ao with ⟨aV,dx,ao,ah,af⟩|⟨aV,n,e,dO,ao,aO,he,af⟩
  ·obtain ⟨fd,q,G,ab⟩:=af f ae aM;exact .inl ⟨aV,dx,fd,ao,q,G,ab⟩
  ·obtain ⟨q,G⟩:=af f ae aM;exact .inr (.inl ⟨aV,e,dO,by rw[aO];exact ao,he,q,G⟩)
theorem kM (tab:cN P cx) {T:bq} {i:gl} (E:cx.ti T=some i) {t:aB} (aW:i.ty=.list t):P.underlying T=some (.slice i.elem)/\sN P i.elem t i.bytes:=by have ao:=(tab T i E).desc;unfold k6 at ao;rw[aW]at ao;exact ⟨ao.1,ao.2.1⟩
theorem ab7 (tab:cN P cx) {T:bq} {i:gl} (E:cx.ti T=some i) {t:aB} (aW:i.ty=.list t): ∃ae,cx.ti i.elem=some ae/\ae.ty=t:=by have ao:=(tab T i E).desc;unfold k6 at ao;rw[aW]at ao;exact ao.2.2
theorem rV (tab:cN P cx) {T:bq} {i:gl} (E:cx.ti T=some i) (aW:i.ty=.str):P.underlying T=some .string:=by have ao:=(tab T i E).desc;unfold k6 at ao;rw[aW]at ao;exact ao
theorem Gj (tab:cN P cx) {T:bq} {i:gl} (E:cx.ti T=some i) {k:IntKind} (aW:i.ty=.int k):P.underlying T=some (.int k):=by have ao:=(tab T i E).desc;unfold k6 at ao;rw[aW]at ao;exact ao
theorem yS {e:bq} {t:aB} {bytes:Nat} (h:sN P e t bytes) (w:bk):(sizeOf e).run P w=.ok t.size w:=by obtain ⟨dO,z,q,G,_⟩:=h;simp[sizeOf,typeInfo,q,G]
theorem xj {o:Nat} {t:aB} {i:Nat} {p:List Nat} {v:az} (h: ∃b k,((∃n c,ι o=.slice (some ⟨b,k,none⟩) n c/\i<n)\/(ι o=.pointer (some ⟨b,0,none⟩)/\i=0/\k=0))/\v=.pointer (some ⟨b,k+i*t.size+t.offAt p,none⟩)/\(t.at_ p).isSome):(K.ptr o t i p).rel φ ι w v:=h
theorem Pe {t:aB} {x:t.den} {v:az} (h: ∃b o cs,v=.pointer (some ⟨b,o,none⟩)/\kB φ w b o cs/\bz φ w t x cs):(K.fptr t x).rel φ ι w v:=h
theorem A2 {t:aB} {o aQ E:Nat} {v:az} (h: ∃A n c dh,ι o=.slice A n c/\aQ<=E/\E<=n/\n<=c/\v=.slice dh (E-aQ) (c-aQ)/\(c≠aQ->dh=A.map (·.add (aQ*t.size)))/\(c≠0-> ∃b k,A=some ⟨b,k,none⟩)):(K.view t o aQ E).rel φ ι w v:=h
theorem uN {t:aB} {o:Nat} {v:az} (h:v=ι o/\ ∃A n c,v=.slice A n c):(K.own t o).rel φ ι w v:=h
theorem ajT {t:aB} {xs:List t.den} {v:az} (h: ∃A n,v=.slice A n n/\bz φ w (.list t) xs [v]):(K.clip t xs).rel φ ι w v:=h
theorem aa2 (tab:cN P cx) {T:bq} {ti:gl} (E:cx.ti T=some ti) (hS:ti.arr=false) (jD:ti.ty.isAgg=true) {f:Nat} (bu:f<ti.fields.length) (b o:Nat):
  ∃j,cx.ti ti.fields[f]=some j/\ti.ty.nth f=some j.ty/\(Instr.fieldAt T (.pointer (some ⟨b,o,none⟩)) f).run P w=.ok (.pointer (some ⟨b,o+ti.ty.offs f,none⟩)) w:=by
 rcases Ar tab E (hr bu) with ⟨_,dx,fd,ao,q,G,ab⟩|⟨q,_⟩|q
 ·obtain ⟨W,j,ak,mr,ea⟩:=ab;refine ⟨j,ak,mr,?_⟩;have RL:=ED (w:=w) tab ak;unfold Instr.fieldAt;simp only[Sem.run_bind,run_underlying ao,Result.andThen_ok,q,Instr.sureAddr,Sem.run_pure,fieldPlace,G,RL];rw[if_neg u];simp[hI,W]
 ·rw[hS]at q;cases q
 ·rw[jD]at q;cases q
theorem PW {b o k d:Nat} {cs:List az} (gB:kB φ w b o cs):kB φ w b (o+k) ((cs.drop k).take d):=by
 intro j ae ak;rw[List.getElem?_take]at ak;split at ak
 ·rw[List.getElem?_drop]at ak;have:=gB _ ae ak
  rwa [<-Nat.add_assoc]at this
 ·cases ak
theorem amG [Env] (tab:cN P cx) {T:bq} {x:K} {f:Nat} (e:(M4 cx T x f).go J n=some (r,aA,aJ)) (h:cg φ ι w J) {cH:az} (al:x.rel φ ι w cH) (fG: ∀i∈x.ids,(aF J i).live=true):
  cG φ ι w J n r aA aJ ((Instr.fieldAt T cH f).run P w):=by
 unfold M4 at e;split at e
 ·rename_i ti E;have s:=go_bif e;clear e;obtain ⟨L,e⟩:=s;simp only[bQ,eT,Nat.blt_eq]at L;obtain ⟨⟨hS,jD⟩,bu⟩:=L;cases x<;>simp only[HM.go,reduceCtorEq]at e
  case ptr o t j p=>
   have s:=go_bif e;clear e;obtain ⟨bW,e⟩:=s;obtain ⟨rfl,rfl,rfl⟩:=go_ret e;obtain ⟨rp,dN,gB⟩:=Gk bW;rw[E]at dN;injection dN with dN
   subst dN;obtain ⟨b,k,L,rfl,aT⟩:=al;obtain ⟨gg,iD,mr,eU⟩:=aa2 (P:=P) (w:=w) tab E hS jD bu b (k+j*t.size+t.offAt p);have M:ti.ty.offAt [f]=ti.ty.offs f:=by simp[aB.offAt,mr]
   refine cG.pure (r:=.ptr o t j (p++[f])) h (xj ⟨b,k,L,?_,?_⟩) (by simpa [K.ids] using fG) eU
   ·rw[aae gB,M];simp only[Nat.add_assoc]
   ·rw[abQ,gB];simp[aB.at_,mr]
  case fptr t v=>
   have s:=go_bif e;clear e;obtain ⟨bW,e⟩:=s;obtain ⟨rp,dN,rfl⟩:=hO bW;rw[E]at dN;injection dN with dN
   subst dN;obtain ⟨I,H1,dm,M,V⟩:=HM.go_bind_some e;obtain ⟨ao,rfl,rfl⟩:=go_opt M;obtain ⟨rfl,rfl,rfl⟩:=go_ret V;obtain ⟨b,o,cs,rfl,gB,aw⟩:=al;obtain ⟨g1,g2⟩:=FP aw ao;obtain ⟨gg,iD,mr,eU⟩:=aa2 (P:=P) (w:=w) tab E hS jD bu b o;exact cG.pure h (Pe ⟨b,o+ti.ty.offs f,_,rfl,PW gB,g2⟩) (by simp[K.ids]) eU
 ·simp[HM.go]at e
theorem aoo [Env] (tab:cN P cx) {T:bq} {x:K} {f:Nat} (e:(O0 cx T x f).go J n=some (r,aA,aJ)) (h:cg φ ι w J) {cH:az} (al:x.rel φ ι w cH) (fG: ∀i∈x.ids,(aF J i).live=true):
  cG φ ι w J n r aA aJ ((Instr.field T cH f).run P w):=by
 unfold O0 at e;split at e
 ·rename_i ti E;have s:=go_bif e;clear e;obtain ⟨L,e⟩:=s;simp only[bQ,eT,Nat.blt_eq]at L;obtain ⟨⟨⟨hS,jD⟩,bu⟩,aM⟩:=L;obtain ⟨aw,rfl,rfl⟩:=go_opt e;obtain ⟨ae,aP,bd,a6,cp,eh,gZ,ir⟩:=abf al aM aw;have a8:=(K.rel_fits x ti.ty cH al aM).2;rw[jD]at a8;obtain ⟨cs,rfl⟩:=uT a8;have ea:=(K.rel_fits x ti.ty _ al aM).1;rcases Ar tab E (hr bu) with ⟨_,dx,fd,ao,q,G,ab⟩|⟨q,_⟩|q
  ·obtain ⟨W,j,ak,mr,azO⟩:=ab;rw[bd]at mr;injection mr with mr
   subst mr;have hle:=Gm bd;simp only[Value.cells]at ea eh;refine cG.pure h a6 (λi E=>fG i (ir i E)) ?_;unfold Instr.field;simp only[Sem.run_bind,run_underlying ao,Result.andThen_ok,q,G,asAgg,Sem.run_pure,part,Od tab ak];rw[U1 eh gZ];unfold oZ;by_cases aV:j.ty.isAgg=true
   ·rw[if_pos aV,if_pos aV];simp only[Sem.run_bind,ED tab ak,Result.andThen_ok,Sem.run_pure];congr 2;apply Array.ext';rw[Array.toList_extract,List.extract_eq_take_drop,W];simp
   ·simp only[Bool.not_eq_true]at aV;have ah:j.ty.size=1:=by cases h:j.ty<;>first |rfl |(rw[h]at aV;simp[aB.isAgg]at aV)
    have p4:ti.ty.offs f<cs.size:=by rw[ea];omega
    rw[ah,W];have M:(cs.toList.drop (ti.ty.offs f)).take 1=[cs[ti.ty.offs f]]:=by rw[lZ (by simpa using p4)];simp
    simp[aV,Array.getElem?_eq_getElem p4,M]
  ·rw[hS]at q;cases q
  ·rw[jD]at q;cases q
 ·simp[HM.go]at e
end
open Go.RowKit
section
variable {P:cv} {cx:cj} {φ:bL} {ι:Nat->az} {w:bk} {J:List aG} {n:Nat} {r:K} {aA:List aG} {aJ:Nat}
theorem Jj {T e:bq} (ao:P.underlying T=some (.slice e)) {d:Nat} (ah: ∀w,(sizeOf e).run P w=.ok d w) {a:Addr} {m c:Nat} {k:IntKind} {i:Int} (bY:0<=i) (q:i<m):
  (Instr.indexAt T (.slice (some a) m c) (.int k i)).run P w=.ok (.pointer (some (a.add (i.toNat*d)))) w:=by
 unfold Instr.indexAt;simp[asIntOf,run_underlying ao,ah,bY,q]
theorem Th {T e:bq} {m:Nat} (ao:P.underlying T=some (.array m e)) {d:Nat} (ah: ∀w,(sizeOf e).run P w=.ok d w) {a:Addr} {k:IntKind} {i:Int} (bY:0<=i) (q:i<m):
  (Instr.indexAt T (.pointer (some a)) (.int k i)).run P w=.ok (.pointer (some (a.add (i.toNat*d)))) w:=by
 unfold Instr.indexAt;simp[asIntOf,run_underlying ao,ah,bY,q,Instr.sureAddr]
theorem go_chk2 {α:Type} {b:Bool} {x:HM α} {J:List aG} {n:Nat} {r:α×List aG×Nat} (e:(HM.chk b x).go J n=some r):b=true/\x.go J n=some r:=HM.go_chk e
theorem ac1 {α:Type} {xs:List α} {i:Nat} {I:α} (h:i<xs.length):xs[i]? =some (xs.getD i I):=by rw[jN,hr h];rfl
theorem abX {t:aB} {xs:List t.den} {A:Option Addr} {m c:Nat} (h:bz φ w (.list t) xs [.slice A m c]) {i:Nat} (E:i<xs.length):
  ∃a,A=some a/\m=xs.length/\(K.fptr t (xs.getD i t.zero)).rel φ ι w (.pointer (some (a.add (i*t.size)))):=by
 obtain ⟨dh,rE,eD,e,ad,aO,h⟩:=h;injection e with e _
 obtain ⟨rfl,rfl,rfl⟩:=iO e;rcases h with h |⟨b,o,aZ,rfl,gB,af⟩
 ·omega
 ·refine ⟨_,rfl,ad.symm,Pe ⟨b,o+i*t.size,(aZ.drop (i*t.size)).take t.size,by rw[hI],PW gB,?_⟩⟩;exact af.get (λx c=>bz.len t x c) _ _ i _ (ac1 E)
theorem pV (tab:cN P cx) {T:bq} {i:gl} (E:cx.ti T=some i) {t:aB} (aW:i.ty=.list t):P.underlying T=some (.slice i.elem)/\ ∀w,(sizeOf i.elem).run P w=.ok t.size w:=
 ⟨(kM tab E aW).1,λw=>yS (kM tab E aW).2 w⟩
theorem go_idxIn {α:Type} {k:Nat} {f:Nat->HM α} {J:List aG} {m:Nat} {s:α×List aG×Nat}: ∀n,(uW k f n).go J m=some s->(f k).go J m=some s
 |0,h=>by simp[uW,HM.go]at h
 |n+1,h=>by
  unfold uW at h;cases L:Nat.beq k n
  ·rw[L]at h;exact go_idxIn n (by simpa [HM.go] using h)
  ·rw[L]at h;have:k=n:=by simpa using L
   subst this;simpa [HM.go] using h
theorem amH [Env] (tab:cN P cx) {T:bq} {x:K} {i:Int} (e:(M6 cx T x i).go J n=some (r,aA,aJ)) (h:cg φ ι w J) {cH:az} (al:x.rel φ ι w cH) (fG: ∀i∈x.ids,(aF J i).live=true) (k:IntKind):
  cG φ ι w J n r aA aJ ((Instr.indexAt T cH (.int k i)).run P w):=by
 unfold M6 at e;split at e
 ·rename_i t o;have s:=go_bif e;clear e;obtain ⟨bW,e⟩:=s;obtain ⟨ti,ft,eH⟩:=hO bW;obtain ⟨ao,ah⟩:=pV tab ft eH;simp only[HM.go]at e;split at e
  ·rename_i cl ae xs fz hm;obtain ⟨kL,W,rfl⟩:=oM hm;have s:=go_bif e;clear e;obtain ⟨hu,e⟩:=s;have hu:ae=t:=by simpa using hu
   subst hu;have s:=go_chk2 e;clear e;obtain ⟨L,e⟩:=s;simp only[bQ,dT]at L;obtain ⟨rfl,rfl,rfl⟩:=go_ret e;obtain ⟨rfl,_⟩:=al;have cq:=h.obj o;rw[W]at cq;obtain ⟨A,m,c,M,V,a1,bp,bg⟩:=cq;rcases bg with bg |⟨b,pre,cur,c6,rfl,_⟩
   ·omega
   ·rw[M];refine cG.pure (r:=.ptr o ae i.toNat []) h (xj ⟨b,pre.size,.inl ⟨m,c,M,u⟩,rfl,rfl⟩) (by simpa [K.ids] using fG) ?_;rw[Jj ao ah L.1 u];simp[hI,aB.offAt]
  ·simp[HM.go]at e
 ·rename_i t o aQ E;have s:=go_bif e;clear e;obtain ⟨bW,e⟩:=s;obtain ⟨ti,ft,eH⟩:=hO bW;obtain ⟨ao,ah⟩:=pV tab ft eH;have s:=go_chk2 e;clear e;obtain ⟨L,e⟩:=s;simp only[bQ,dT]at L;obtain ⟨rfl,rfl,rfl⟩:=go_ret e;obtain ⟨A,m,c,dh,M,q,G,ab,rfl,e4,di⟩:=al;obtain ⟨b,dq,rfl⟩:=di u;obtain rfl:=e4 u;refine cG.pure (r:=.ptr o t (aQ+i.toNat) []) (v:=.pointer (some ⟨b,dq+(aQ+i.toNat)*t.size+t.offAt [],none⟩)) h (xj ⟨b,dq,.inl ⟨m,c,M,u⟩,rfl,rfl⟩) (by simpa [K.ids] using fG) ?_;simp only[Option.map_some,hI];rw[Jj ao ah L.1 L.2];simp[hI,aB.offAt,Nat.add_mul,Nat.add_assoc]
 ·rename_i o t j p;have s:=go_bif e;clear e;obtain ⟨bW,e⟩:=s;obtain ⟨ti,ft,gB⟩:=Gk bW;rw[ft]at e;simp only at e;have s:=go_bif e;clear e;obtain ⟨hS,e⟩:=s;simp only[bQ]at hS;have s:=go_chk2 e;clear e;obtain ⟨L,e⟩:=s;simp only[bQ,dT]at L;have s:=go_idxIn _ e;clear e;have e:=s;clear s;obtain ⟨rfl,rfl,rfl⟩:=go_ret e;obtain ⟨b,dq,pZ,rfl,aT⟩:=al;have bu:i.toNat<ti.fields.length:=u;rcases Ar tab ft (hr bu) with ⟨q,_⟩|⟨_,cl,dO,ao,pa,afi,W,gg,iD,mr,_⟩|q
  ·rw[hS.1]at q;cases q
  ·refine cG.pure (r:=.ptr o t j (p++[i.toNat])) (v:=.pointer (some ⟨b,dq+j*t.size+t.offAt (p++[i.toNat]),none⟩)) h (xj ⟨b,dq,pZ,rfl,?_⟩) (by simpa [K.ids] using fG) ?_
   ·rw[abQ,gB];simp[aB.at_,mr]
   ·rw[Th ao (d:=dO.size) (λw=>by simp[sizeOf,typeInfo,pa]) L.1 L.2];rw[aae gB];simp[hI,aB.offAt,mr,<-W,Nat.add_assoc]
  ·rw[hS.2]at q;cases q
 ·rename_i t v;have s:=go_bif e;clear e;obtain ⟨bW,e⟩:=s;obtain ⟨ti,ft,rfl⟩:=hO bW;rw[ft]at e;simp only at e;have s:=go_bif e;clear e;obtain ⟨hS,e⟩:=s;simp only[bQ]at hS;have s:=go_chk2 e;clear e;obtain ⟨L,e⟩:=s;simp only[bQ,dT]at L;have s:=go_idxIn _ e;clear e;have e:=s;clear s;obtain ⟨I,H1,dm,M,V⟩:=HM.go_bind_some e;obtain ⟨oz,rfl,rfl⟩:=go_opt M;obtain ⟨rfl,rfl,rfl⟩:=go_ret V;obtain ⟨b,o,cs,rfl,gB,aw⟩:=al;obtain ⟨g1,g2⟩:=FP aw oz;have bu:i.toNat<ti.fields.length:=u;rcases Ar tab ft (hr bu) with ⟨q,_⟩|⟨_,cl,dO,ao,pa,afi,W,gg,iD,mr,_⟩|q
  ·rw[hS.1]at q;cases q
  ·refine cG.pure (r:=.fptr I.t I.x) h (Pe ⟨b,o+ti.ty.offs i.toNat,_,rfl,PW gB,g2⟩) (by simp[K.ids]) ?_;rw[Th ao (d:=dO.size) (λw=>by simp[sizeOf,typeInfo,pa]) L.1 L.2];simp[hI,<-W]
  ·rw[hS.2]at q;cases q
 ·rename_i b off l;split at e
  ·rename_i ti ft;have s:=go_bif e;clear e;obtain ⟨hS,e⟩:=s;simp only[bQ]at hS;have s:=go_chk2 e;clear e;obtain ⟨L,e⟩:=s;simp only[bQ,dT]at L;have s:=go_idxIn _ e;clear e;have e:=s;clear s;obtain ⟨rfl,rfl,rfl⟩:=go_ret e;obtain ⟨rfl,gB⟩:=al;have bu:i.toNat<ti.fields.length:=u;rcases Ar tab ft (hr bu) with ⟨q,_⟩|⟨_,cl,dO,ao,pa,afi,W,gg,iD,mr,_⟩|q
   ·rw[hS.1]at q;cases q
   ·refine cG.pure (r:=.gp b (off+ti.ty.offs i.toNat) (l.drop (ti.ty.offs i.toNat))) (v:=.pointer (some ⟨b,off+ti.ty.offs i.toNat,none⟩)) h ⟨rfl,?_⟩ (by simp[K.ids]) ?_
    ·intro j v ak;rw[List.map_drop,List.getElem?_drop]at ak;have:=gB _ v ak
     rwa [<-Nat.add_assoc]at this
    ·rw[Th ao (d:=dO.size) (λw=>by simp[sizeOf,typeInfo,pa]) L.1 L.2];simp[hI,<-W]
   ·rw[hS.2]at q;cases q
  ·simp[HM.go]at e
 ·rename_i t xs;have s:=go_bif e;clear e;obtain ⟨bW,e⟩:=s;obtain ⟨ti,ft,eH⟩:=hO bW;obtain ⟨ao,ah⟩:=pV tab ft eH;have s:=go_chk2 e;clear e;obtain ⟨L,e⟩:=s;simp only[bQ,dT]at L;obtain ⟨rfl,rfl,rfl⟩:=go_ret e;obtain ⟨A,m,c,rfl,re⟩:=cF.list al;obtain ⟨a,rfl,rfl,ar⟩:=abX (ι:=ι) (show bz φ w (.list t) xs [.slice A m c] from ⟨A,m,c,rfl,re⟩) (i:=i.toNat) u;exact cG.pure h ar (by simp[K.ids]) (Jj ao ah L.1 L.2)
 ·rename_i t xs;have s:=go_bif e;clear e;obtain ⟨bW,e⟩:=s;obtain ⟨ti,ft,eH⟩:=hO bW;obtain ⟨ao,ah⟩:=pV tab ft eH;have s:=go_chk2 e;clear e;obtain ⟨L,e⟩:=s;simp only[bQ,dT]at L;obtain ⟨rfl,rfl,rfl⟩:=go_ret e;obtain ⟨A,m,rfl,re⟩:=al;obtain ⟨a,rfl,rfl,ar⟩:=abX (ι:=ι) re (i:=i.toNat) u;exact cG.pure h ar (by simp[K.ids]) (Jj ao ah L.1 L.2)
 ·simp[HM.go]at e
end
open Go.RowKit
section
variable {P:cv} {cx:cj} {φ:bL} {ι:Nat->az} {w:bk} {J:List aG} {n:Nat} {r:K} {aA:List aG} {aJ:Nat}
theorem aoY [Env] (tab:cN P cx) {T:bq} {x:K} {i:Int} (e:(O9 cx T x i).go J n=some (r,aA,aJ)) (h:cg φ ι w J) {cH:az} (al:x.rel φ ι w cH) (k:IntKind):
  cG φ ι w J n r aA aJ ((Instr.index T cH (.int k i)).run P w):=by
 unfold O9 at e;split at e
 ·rename_i d;have s:=go_bif e;clear e;obtain ⟨bW,e⟩:=s;obtain ⟨ti,ft,eH⟩:=hO bW;have ao:=rV tab ft eH;have s:=go_chk2 e;clear e;obtain ⟨L,e⟩:=s;simp only[bQ,dT]at L;obtain ⟨rfl,rfl,rfl⟩:=go_ret e;obtain rfl:=cF.str.1 al;refine cG.plain h (Plain.int _ _) ?_;have bu:i.toNat<d.length:=u;have q:(⟨⟨d⟩⟩:ByteArray)[i.toNat]? =some (d.getD i.toNat 0):=by have G:i.toNat<(⟨⟨d⟩⟩:ByteArray).size:=bu;rw[getElem?_pos (⟨⟨d⟩⟩:ByteArray) i.toNat G];rw[jN,hr bu];rfl
  unfold Instr.index;simp[asIntOf,run_underlying ao,L.1,q]
 ·simp[HM.go]at e
def n9:Option az->Option Int->Prop
 |none,none=>True
 |some v,some a=> ∃k,v=.int k a
 |_,_=>False
theorem Dv {isSlice:Bool} {m c:Nat} {aQ E:Option az} {l h:Option Int} (ad:n9 aQ l) (bg:n9 E h) (bY:0<=l.getD 0) (q:l.getD 0<=h.getD m) (G:h.getD m<=m) (ab:m<=c):
  (Instr.sliceBounds isSlice m c aQ E none).run P w=.ok ((l.getD 0).toNat,(h.getD m).toNat,c) w:=by
 unfold Instr.sliceBounds Instr.sliceBound;cases aQ with
 |none=>
  cases l with
  |some a=>exact ad.elim
  |none=>
   cases E with
   |none=>
    cases h with
    |some a=>exact bg.elim
    |none=>simp
   |some v=>
    cases h with
    |none=>exact bg.elim
    |some a=>
     obtain ⟨k,rfl⟩:=bg;simp only[Option.getD_none,Option.getD_some]at bY q G;have:a<=(c:Int):=u;simp[asIntOf,q,this]
 |some ae=>
  cases l with
  |none=>exact ad.elim
  |some b=>
   obtain ⟨eB,rfl⟩:=ad;simp only[Option.getD_some]at bY q G ⊢;cases E with
   |none=>
    cases h with
    |some a=>exact bg.elim
    |none=>
     simp only[Option.getD_none]at q G ⊢;simp[asIntOf,bY,q]
   |some v=>
    cases h with
    |none=>exact bg.elim
    |some a=>
     obtain ⟨k,rfl⟩:=bg;simp only[Option.getD_some]at q G ⊢;have aE:0<=a:=u;have bf:a<=(c:Int):=u;have bF:max a 0=a:=u;simp[asIntOf,bY,aE,bf,bF,q]
theorem anx {m c:Nat} {aQ:Option az} {l:Option Int} {k a6:IntKind} {a I:Int} (ad:n9 aQ l) (bY:0<=l.getD 0) (q:l.getD 0<=a) (G:a<=I) (ab:I<=m) (aE:m<=c):
  (Instr.sliceBounds true m c aQ (some (.int k a)) (some (.int a6 I))).run P w=.ok ((l.getD 0).toNat,a.toNat,I.toNat) w:=by
 unfold Instr.sliceBounds Instr.sliceBound;have bf:0<=a:=u;have bF:0<=I:=u;have dU:I<=(c:Int):=u;have hh:max I 0=I:=u;have pW:max a 0=a:=u;cases aQ with
 |none=>
  cases l with
  |some a=>exact ad.elim
  |none=>simp[asIntOf,bf,bF,dU,hh,pW,G]
 |some ae=>
  cases l with
  |none=>exact ad.elim
  |some b=>
   obtain ⟨eB,rfl⟩:=ad;simp only[Option.getD_some]at bY q ⊢;simp[asIntOf,bY,bf,bF,dU,hh,pW,q,G]
   try (intro bu;omega)
theorem anz {m c:Nat} {aQ E:Option az} {l h:Option Int} (ad:n9 aQ l) (bg:n9 E h) (bY:0<=l.getD 0) (q:l.getD 0<=h.getD (m:Int)) (G:h.getD (m:Int)<=(c:Int)):
  (Instr.sliceBounds true m c aQ E none).run P w=.ok ((l.getD 0).toNat,(h.getD (m:Int)).toNat,c) w:=by
 unfold Instr.sliceBounds Instr.sliceBound;cases aQ with
 |none=>
  cases l with
  |some a=>exact ad.elim
  |none=>
   cases E with
   |none=>
    cases h with
    |some a=>exact bg.elim
    |none=>simp
   |some v=>
    cases h with
    |none=>exact bg.elim
    |some a=>
     obtain ⟨k,rfl⟩:=bg;simp only[Option.getD_none,Option.getD_some]at bY q G;have:a<=(c:Int):=u;simp[asIntOf,q,this]
 |some ae=>
  cases l with
  |none=>exact ad.elim
  |some b=>
   obtain ⟨eB,rfl⟩:=ad;simp only[Option.getD_some]at bY q G ⊢;cases E with
   |none=>
    cases h with
    |some a=>exact bg.elim
    |none=>
     simp only[Option.getD_none]at q G ⊢;simp[asIntOf,bY,q]
   |some v=>
    cases h with
    |none=>exact bg.elim
    |some a=>
     obtain ⟨k,rfl⟩:=bg;simp only[Option.getD_some]at q G ⊢;have aE:0<=a:=u;have bf:a<=(c:Int):=u;have bF:max a 0=a:=u;simp[asIntOf,bY,aE,bf,bF,q]
theorem anw {m c:Nat} {aQ:Option az} {l:Option Int} {k a6:IntKind} {a:Int} (ad:n9 aQ l) (bY:0<=l.getD 0) (q:l.getD 0<=a) (G:a<=m) (ab:m<=c):
  (Instr.sliceBounds true m c aQ (some (.int k a)) (some (.int a6 a))).run P w=.ok ((l.getD 0).toNat,a.toNat,a.toNat) w:=by
 unfold Instr.sliceBounds Instr.sliceBound;have aE:0<=a:=u;have bf:a<=(c:Int):=u;cases aQ with
 |none=>
  cases l with
  |some a=>exact ad.elim
  |none=>
   have bF:max a 0=a:=u;simp[asIntOf,aE,bf,bF]
 |some ae=>
  cases l with
  |none=>exact ad.elim
  |some b=>
   obtain ⟨eB,rfl⟩:=ad;simp only[Option.getD_some]at bY q ⊢;have bF:max a 0=a:=u;simp[asIntOf,bY,aE,bf,bF,q]
   try (intro bu;omega)
theorem bz.part {t:aB} {xs:List t.den} {A dh:Option Addr} {m c l h eD:Nat} (aw:bz φ w (.list t) xs [.slice A m c]) (q:l<=h) (G:h<=m) (ab:h-l<=eD) (e4:h≠l->dh=A.map (·.add (l*t.size))):
  bz φ w (.list t) ((xs.take h).drop l) [.slice dh (h-l) eD]:=by
 obtain ⟨jx,cV,ba,e,ad,aO,bg⟩:=aw;injection e with e _
 obtain ⟨rfl,rfl,rfl⟩:=iO e;refine ⟨_,_,_,rfl,by simp[ad];omega,ab,?_⟩;by_cases bI:h-l=0
 ·exact .inl bI
 ·refine .inr ?_;rcases bg with bg |⟨b,o,aZ,rfl,gB,af⟩
  ·omega
  ·refine ⟨b,o+l*t.size,(aZ.take (h*t.size)).drop (l*t.size),by rw[e4 u];simp[hI],?_,(af.take (λx c=>bz.len t x c) h).drop (λx c=>bz.len t x c) l⟩;intro i v E;rw[List.getElem?_drop,List.getElem?_take]at E;split at E
   ·have:=gB _ v E
    rwa [<-Nat.add_assoc]at this
   ·cases E
theorem vJ {T e:bq} (ao:P.underlying T=some (.slice e)) {d:Nat} (ah: ∀w,(sizeOf e).run P w=.ok d w) {A:Option Addr} {m c:Nat} {aQ E fQ:Option az} {l h eD:Nat}
  (L:(Instr.sliceBounds true m c aQ E fQ).run P w=.ok (l,h,eD) w):
  (Instr.sliceAt T (.slice A m c) aQ E fQ).run P w=.ok (.slice (if eD=l then A else A.map (·.add (l*d))) (h-l) (eD-l)) w:=by
 unfold Instr.sliceAt Instr.slice;simp[run_underlying ao,L,ah]
theorem anU [Env] (tab:cN P cx) {T:bq} {x:K} {aQ E fQ:Option Int} (e:(OO cx T x aQ E fQ).go J n=some (r,aA,aJ)) (h:cg φ ι w J) {cH:az} (al:x.rel φ ι w cH) (fG: ∀i∈x.ids,(aF J i).live=true)
  {vQ a8 mv:Option az} (ad:n9 vQ aQ) (bg:n9 a8 E) (hm:n9 mv fQ):
  cG φ ι w J n r aA aJ ((Instr.sliceAt T cH vQ a8 mv).run P w):=by
 unfold OO at e;split at e
 ·rename_i d;cases fQ with
  |some m=>simp[HM.go]at e
  |none=>
   cases mv with
   |some v=>exact hm.elim
   |none=>
    simp only at e;have s:=go_bif e;clear e;obtain ⟨bW,e⟩:=s;obtain ⟨ti,ft,eH⟩:=hO bW;have ao:=rV tab ft eH;have s:=go_chk2 e;clear e;obtain ⟨L,e⟩:=s;simp only[bQ,dT]at L;obtain ⟨rfl,rfl,rfl⟩:=go_ret e;obtain rfl:=cF.str.1 al;refine cG.plain h (Plain.str _) ?_;have lL:=Dv (P:=P) (w:=w) (isSlice:=false) (c:=d.length) ad bg L.1.1 L.1.2 L.2 (ca _);have ea:(⟨⟨d⟩⟩:ByteArray).size=d.length:=rfl;unfold Instr.sliceAt Instr.slice;simp only[Sem.run_bind,run_underlying ao,Result.andThen_ok,ea,lL,Option.isSome_none,Bool.false_eq_true,if_false,Sem.run_pure];congr 2;apply ByteArray.ext;apply Array.ext';simp[ByteArray.data_extract,List.extract_eq_take_drop,List.drop_take]
 ·rename_i t o;cases fQ with
  |some yI=>
   cases E with
   |none=>simp[HM.go]at e
   |some a=>
    cases mv with
    |none=>exact hm.elim
    |some v=>
     obtain ⟨a6,rfl⟩:=hm;cases a8 with
     |none=>exact bg.elim
     |some v=>
      obtain ⟨bd,rfl⟩:=bg;simp only at e;have s:=go_bif e;clear e;obtain ⟨bW,e⟩:=s;obtain ⟨ti,ft,eH⟩:=hO bW;obtain ⟨ao,ah⟩:=pV tab ft eH;simp only[HM.go]at e;split at e
      ·rename_i cl ae xs fz CJ;obtain ⟨kL,W,rfl⟩:=oM CJ;have s:=go_bif e;clear e;obtain ⟨hu,e⟩:=s;have hu:ae=t:=by simpa using hu
       subst hu;have s:=go_chk2 e;clear e;obtain ⟨L,e⟩:=s;simp only[bQ,dT]at L;obtain ⟨⟨⟨fl,eE⟩,q1⟩,Ic⟩:=L;obtain ⟨rfl,rfl,rfl⟩:=go_ret e;obtain ⟨rfl,_⟩:=al;have cq:=h.obj o;rw[W]at cq;obtain ⟨A,m,c,M,V,a1,bp,Ii⟩:=cq;subst V;rw[M];have lL:=anx (P:=P) (w:=w) (c:=c) (k:=bd) (a6:=a6) ad fl eE q1 Ic a1;exact cG.pure (r:=.undef) h trivial (by simp[K.ids]) (vJ ao ah lL)
      ·simp[HM.go]at e
  |none=>
   cases mv with
   |some v=>exact hm.elim
   |none=>
    simp only at e;have s:=go_bif e;clear e;obtain ⟨bW,e⟩:=s;obtain ⟨ti,ft,eH⟩:=hO bW;obtain ⟨ao,ah⟩:=pV tab ft eH;simp only[HM.go]at e;split at e
    ·rename_i cl ae xs fz CJ;obtain ⟨kL,W,rfl⟩:=oM CJ;have s:=go_bif e;clear e;obtain ⟨hu,e⟩:=s;have hu:ae=t:=by simpa using hu
     subst hu;have s:=go_chk2 e;clear e;obtain ⟨L,e⟩:=s;simp only[bQ,dT]at L;obtain ⟨rfl,rfl,rfl⟩:=go_ret e;obtain ⟨rfl,_⟩:=al;have cq:=h.obj o;rw[W]at cq;obtain ⟨A,m,c,M,V,a1,bp,Ii⟩:=cq;subst V;rw[M];have lL:=Dv (P:=P) (w:=w) (isSlice:=true) (c:=c) ad bg L.1.1 L.1.2 L.2 a1;refine cG.pure (r:=.view ae o (aQ.getD 0).toNat (E.getD (xs.length:Int)).toNat) h (A2 ⟨A,_,c,_,M,u,u,a1,rfl,λcw=>by rw[if_neg cw],?_⟩) (by simpa [K.ids] using fG) (vJ ao ah lL);intro aw;rcases Ii with Ii |⟨b,pre,cur,c6,rfl,_⟩
     ·exact absurd Ii aw
     ·exact ⟨b,_,rfl⟩
    ·simp[HM.go]at e
 ·rename_i t o a z;cases fQ with
  |some m=>simp[HM.go]at e
  |none=>
   cases mv with
   |some v=>exact hm.elim
   |none=>
    simp only at e;have s:=go_bif e;clear e;obtain ⟨bW,e⟩:=s;obtain ⟨ti,ft,eH⟩:=hO bW;obtain ⟨ao,ah⟩:=pV tab ft eH;simp only[HM.go]at e;split at e
    case h_2=>simp[HM.go]at e
    rename_i cl ae xs fz CJ;obtain ⟨kL,W,rfl⟩:=oM CJ;have s:=go_bif e;clear e;obtain ⟨hu,e⟩:=s;have hu:ae=t:=by simpa using hu
    subst hu;have s:=go_chk2 e;clear e;obtain ⟨L,e⟩:=s;simp only[bQ,dT]at L;obtain ⟨rfl,rfl,rfl⟩:=go_ret e;obtain ⟨A,m,c,dh,M,q,G,ab,rfl,e4,di⟩:=al;have cq:=h.obj o;rw[W]at cq;obtain ⟨jx,cV,ba,gy,V,-⟩:=cq;rw[M]at gy;obtain ⟨rfl,rfl,rfl⟩:=iO gy;have lL:=anz (P:=P) (w:=w) (m:=z-a) (c:=c-a) ad bg L.1.1 L.1.2 u;refine cG.pure (r:=.view ae o (a+(aQ.getD 0).toNat) (a+(E.getD ((z-a:Nat):Int)).toNat)) h (A2 ⟨A,m,c,if c-a=(aQ.getD 0).toNat then dh else dh.map (·.add ((aQ.getD 0).toNat*ae.size)),M,u,u,ab,?_,?_,di⟩) (by simpa [K.ids] using fG) (vJ ao ah lL)
    ·congr 1<;>omega
    ·intro cw;rw[if_neg u,e4 u];cases A with
     |none=>rfl
     |some alr=>
      obtain ⟨b,dq,h3⟩:=di u;injection h3 with h3
      subst h3;simp[hI,Nat.add_mul,Nat.add_assoc]
 ·rename_i cl t;cases fQ with
  |some m=>simp[HM.go]at e
  |none=>
   cases mv with
   |some v=>exact hm.elim
   |none=>
    simp only at e;have s:=go_bif e;clear e;obtain ⟨bW,e⟩:=s;obtain ⟨ti,ft,eH⟩:=hO bW;obtain ⟨ao,ah⟩:=pV tab ft eH;have s:=go_chk2 e;clear e;obtain ⟨L,e⟩:=s;simp only[bQ,dT]at L;obtain ⟨fl,eE⟩:=L;obtain ⟨rfl,rfl,rfl⟩:=go_ret e;simp only[K.rel]at al;subst al;have q1:E.getD ((0:Nat):Int)=0:=by simpa using eE
    have lL:=Dv (P:=P) (w:=w) (isSlice:=true) (m:=0) (c:=0) ad bg u (by rw[fl,q1];exact Int.le_refl _) (by rw[q1];exact Int.le_refl _) (ca _);rw[fl,q1]at lL;exact cG.pure (r:=.nils cl t) (v:=.slice none 0 0) h (by simp[K.rel]) (by simp[K.ids]) (by simpa using vJ ao ah lL)
 ·obtain ⟨I,H1,dm,M,V⟩:=HM.go_bind_some e;obtain ⟨rfl,av,g,ys⟩:=tD x φ cH J n I H1 dm M h al fG;clear e;split at V
  ·rename_i t xs;have s:=go_bif V;clear V;obtain ⟨bW,V⟩:=s;obtain ⟨ti,ft,eH⟩:=hO bW;obtain ⟨ao,ah⟩:=pV tab ft eH;obtain ⟨A,m,c,rfl,hlen,vr,re⟩:=cF.list ys;have o8:bz av w (.list t) xs [.slice A m c]:=⟨A,m,c,rfl,hlen,vr,re⟩;subst hlen;cases fQ with
   |none=>
    cases mv with
    |some v=>exact hm.elim
    |none=>
     simp only at V;have s:=go_chk2 V;clear V;obtain ⟨L,V⟩:=s;simp only[bQ,dT]at L;obtain ⟨rfl,rfl,rfl⟩:=go_ret V;have lL:=Dv (P:=P) (w:=w) (isSlice:=true) (c:=c) ad bg L.1.1 L.1.2 L.2 vr;have avp:List.length xs<=c:=vr;have bw:(aQ.getD 0).toNat<=(E.getD (List.length xs:Int)).toNat:=u;have bS:(E.getD (List.length xs:Int)).toNat<=List.length xs:=u;have yf:=bz.part (dh:=if c=(aQ.getD 0).toNat then A else A.map (·.add ((aQ.getD 0).toNat*t.size))) (eD:=c-(aQ.getD 0).toNat) o8 bw bS u (λcw=>by rw[if_neg u]);exact cG.ghost g (h2 ⟨yf,rfl⟩) (by simp[K.ids]) (vJ ao ah lL)
   |some yI=>
    cases mv with
    |none=>exact hm.elim
    |some v=>
     obtain ⟨a6,rfl⟩:=hm;cases E with
     |none=>simp[HM.go]at V
     |some a=>
      cases a8 with
      |none=>exact bg.elim
      |some v=>
       obtain ⟨bd,rfl⟩:=bg;simp only at V;have s:=go_chk2 V;clear V;obtain ⟨L,V⟩:=s;simp only[bQ,dT]at L;obtain ⟨⟨⟨fl,eE⟩,q1⟩,rfl⟩:=L;obtain ⟨rfl,rfl,rfl⟩:=go_ret V;have lL:=anw (P:=P) (w:=w) (c:=c) (k:=bd) (a6:=a6) ad fl eE q1 vr;have avp:List.length xs<=c:=vr;have bw:(aQ.getD 0).toNat<=a.toNat:=u;have bS:a.toNat<=List.length xs:=u;have yf:=bz.part (dh:=if a.toNat=(aQ.getD 0).toNat then A else A.map (·.add ((aQ.getD 0).toNat*t.size))) (eD:=a.toNat-(aQ.getD 0).toNat) o8 bw bS (ca _) (λcw=>by rw[if_neg cw]);exact cG.ghost g (ajT ⟨_,_,rfl,yf⟩) (by simp[K.ids]) (vJ ao ah lL)
  ·simp[HM.go]at V
theorem apy [Env] (tab:cN P cx) {T:bq} {x:K} {aQ E fQ:Option Int} (e:(Pg cx T x aQ E fQ).go J n=some (r,aA,aJ)) (h:cg φ ι w J) {cH:az} (al:x.rel φ ι w cH) (fG: ∀i∈x.ids,(aF J i).live=true)
  {vQ a8 mv:Option az} (ad:n9 vQ aQ) (bg:n9 a8 E) (hm:n9 mv fQ):
  cG φ ι w J n r aA aJ ((Instr.sliceAt T cH vQ a8 mv).run P w):=by
 unfold Pg at e;split at e
 ·rename_i t xs a;have s:=go_bif e;clear e;obtain ⟨bW,e⟩:=s;obtain ⟨ti,ft,eH⟩:=hO bW;obtain ⟨ao,ah⟩:=pV tab ft eH;have s:=go_chk2 e;clear e;obtain ⟨L,e⟩:=s;simp only[bQ,dT]at L;obtain ⟨rfl,rfl,rfl⟩:=go_ret e;obtain ⟨A,m,rfl,o8⟩:=al;have hlen:xs.length=m:=by
   obtain ⟨jx,cV,ba,M,ad,_⟩:=o8;injection M with M _
   obtain ⟨rfl,rfl,rfl⟩:=iO M;exact ad
  subst hlen;cases mv with
  |some v=>exact hm.elim
  |none=>
   have lL:=Dv (P:=P) (w:=w) (isSlice:=true) (m:=xs.length) (c:=xs.length) ad bg aU (by simpa using L.1) (by simpa using L.2) (ca _);have bS:a.toNat<=List.length xs:=by have:=L.2;omega
   have yf:=bz.part (dh:=if xs.length=0 then A else A.map (·.add (0*t.size))) (l:=0) (h:=a.toNat) (eD:=xs.length) o8 (Nat.zero_le _) bS u (λcw=>by rw[if_neg u]);simp only[List.drop_zero,Nat.sub_zero]at yf;have eU:=vJ (A:=A) ao ah lL;simp only[Option.getD_none,Option.getD_some,Int.toNat_zero,Nat.sub_zero]at eU;exact cG.pure (r:=.lim t (xs.take a.toNat) xs.length) h (show K.rel φ ι w (.lim t (xs.take a.toNat) xs.length) _ from ⟨_,_,rfl,yf⟩) (by simp[K.ids]) eU
 ·exact anU tab e h al fG ad bg hm
end
open Go.RowKit
section
variable {P:cv} {cx:cj} {φ:bL} {ι aH:Nat->az} {w aq:bk} {J aA:List aG} {n:Nat}
theorem uE [Env] (h:cg φ ι w J) {o b:Nat} (W:(aF J o).owns=true) (L:dM (ι o)=some b):b<w.heap.size:=by
 have ar:=h.obj o;cases dB:aF J o with
 |arr e t xs fz=>
  rw[dB]at ar;obtain ⟨n,c,pre,cur,c6,_,_,_,_,_,q,_⟩:=ar.blk_arr L;exact (kU.1 q).1
 |box T t r=>
  rw[dB]at ar;obtain ⟨bX,cur,c6,v,M,q,_⟩:=ar;rw[M]at L;have:bX=b:=by simpa [dM] using L
  subst this;exact (kU.1 q).1
 |iter d pos=>
  rw[dB]at ar;obtain ⟨bX,n,M,q,_⟩:=ar;rw[M]at L;have:bX=b:=by simpa [dM] using L
  subst this;exact (kU.1 q).1
 |loop Y R p=>
  rw[dB]at ar;obtain ⟨l,rec,c,M,q⟩:=ar;rw[M]at L;have:l=b:=by simpa [dM] using L
  subst this;exact (kU.1 q.heap).1
 |hole=>rw[dB]at W;cases W
 |gone=>rw[dB]at W;cases W
theorem kR [Env] (h:cg φ ι w J) {b k:Nat} (L:φ b k):b<w.heap.size:=by obtain ⟨v,a8⟩:=h.phi b k L;exact World.block_lt_of_cell? w _ a8
theorem cg.update [Env] (h:cg φ ι w J) (C:Nat->Prop) (af: ∀i,¬C i->aF aA i=aF J i) (E: ∀i,(aF J i).live=true->aH i=ι i) (ad: ∀i,(aF J i).live=true->(aF aA i).live=true)
  (aw: ∀i,C i->jz φ aH aq i (aF aA i)) (aeD: ∀i,C i-> ∀j∈(aF aA i).ids,(aF aA j).live=true)
  (hw: ∀i b,¬C i->(aF J i).owns=true->dM (ι i)=some b->aq.heap[b]? =w.heap[b]?) (kx: ∀b k,φ b k->aq.cell? ⟨b,k,none⟩=w.cell? ⟨b,k,none⟩)
  (pY: ∀i j b,C i->(aF aA i).owns=true->(aF aA j).owns=true->dM (aH i)=some b->dM (aH j)=some b->i=j):cg φ aH aq aA:=by
 have fs: ∀i,(aF J i).owns=true->(aF J i).live=true:=λi W=>by cases dB:aF J i<;>rw[dB]at W<;>first |rfl |(cases W)
 refine ⟨λi=> ?_,λi j b jn lh q G=> ?_,λb k L=> ?_,λi j ak=> ?_,λg=>(h.glob g).mono (λ_ _ h=>h) kx⟩
 ·by_cases eG:C i
  ·exact aw i eG
  ·rw[af i eG];refine (h.obj i).keep (λ_ _ h=>h) kx (E i) (λj ak=>E j (h.ids i j ak)) λb W L=>⟨hw i b eG W L,λ_ h=>h⟩
 ·by_cases eG:C i
  ·exact pY i j b eG jn lh q G
  ·by_cases aek:C j
   ·exact (pY j i b aek lh jn G q).symm
   ·rw[af i eG]at jn;rw[af j aek]at lh;rw[E i (fs i jn)]at q;rw[E j (fs j lh)]at G;exact h.apart i j b jn lh q G
 ·rw[kx b k L];exact h.phi b k L
 ·by_cases eG:C i
  ·exact aeD i eG j ak
  ·rw[af i eG]at ak;exact ad j (h.ids i j ak)
def eg (ι:Nat->az) (n:Nat) (v:az):Nat->az:=λi=>if i=n then v else ι i
structure ic (w aq:bk):Prop where
 os:aq.os=w.os
 tape:aq.tape=w.tape
 output:aq.output=w.output
 size:w.heap.size<=aq.heap.size
 blocks: ∀b,b<w.heap.size->aq.heap[b]? =w.heap[b]?
theorem ic.cell (g:ic w aq) {b k:Nat} (L:b<w.heap.size):aq.cell? ⟨b,k,none⟩=w.cell? ⟨b,k,none⟩:=by simp[World.cell?,g.blocks b L]
theorem ic.alloc (w:bk) (o:Obj):ic w (w.alloc o):=⟨rfl,rfl,rfl,aU,λb L=>Below.heap_alloc w o b L⟩
theorem ic.drew_alloc (w:bk) (o:Obj):ic w (w.drew.alloc o):=⟨rfl,rfl,rfl,aU,λb L=>Below.heap_alloc w.drew o b L⟩
theorem Bs [Env] (h:cg φ ι w J) (aO:n<=J.length) (aM:(aF J n).live=false) (g:ic w aq) {v:az} {dg:aG} (dB:jz φ (eg ι n v) aq n dg) (fr: ∀i∈dg.ids,(aF J i).live=true) (gP:dg.live=true)
  (jS: ∀b,dM v=some b->w.heap.size<=b):
  cg φ (eg ι n v) aq (b8 J n dg)/\Step φ ι w J φ (eg ι n v) aq (b8 J n dg)/\eo ι J (eg ι n v) (b8 J n dg)/\iW J n (b8 J n dg) (n+1):=by
 have bO: ∀i,aF (b8 J n dg) i=if i=n then dg else aF J i:=λi=>gL J n dg i aO
 have cw: ∀i,(aF J i).live=true->i≠n:=λi E e=>by subst e;rw[aM]at E;cases E
 have fs: ∀i,(aF J i).owns=true->(aF J i).live=true:=λi W=>by cases dB:aF J i<;>rw[dB]at W<;>first |rfl |(cases W)
 have E: ∀i,(aF J i).live=true->eg ι n v i=ι i:=λi E=>by simp[eg,cw i E]
 have ad: ∀i,(aF J i).live=true->(aF (b8 J n dg) i).live=true:=λi h=>by rw[bO,if_neg (cw i h)];exact h
 have kx: ∀b k,φ b k->aq.cell? ⟨b,k,none⟩=w.cell? ⟨b,k,none⟩:=λb k L=>g.cell (kR h L)
 refine ⟨h.update (λi=>i=n) (λi eG=>by rw[bO,if_neg eG]) E ad ?_ ?_ (λi b _ W L=>g.blocks b (uE h W L)) kx ?_,?_,⟨E,ad⟩,?_⟩
 ·rintro i rfl;rw[bO,if_pos rfl];exact dB
 ·rintro i rfl j ak;rw[bO,if_pos rfl]at ak;exact ad j (fr j ak)
 ·rintro i j b rfl q G ab aE;by_cases ak:j=i
  ·exact ak.symm
  ·rw[bO,if_neg ak]at G;rw[E j (fs j G)]at aE;have:=uE h G aE;have:=jS b (by simpa [eg] using ab);omega
 ·refine ⟨λ_ _ h=>h,kx,λ_ _ h=>.inl h,g.size,g.os,g.tape,g.output,λb L _=>g.blocks b L,λb L=> ?_⟩;obtain ⟨o,q,G⟩:=L;rw[bO]at q;split at q
  ·rename_i e;subst e;exact .inl (jS b (by simpa [eg] using G))
  ·rename_i e;exact .inr ⟨o,q,by simpa [eg,e] using G⟩
 ·refine ⟨u,?_,λh=> ?_,λi E=>by rw[bO,if_neg u],λh=> ?_⟩
  ·rcases Nat.lt_or_ge n J.length with q |q
   ·rw[ij J n dg q];exact ca _
   ·have:n=J.length:=u;subst this;rw[tJ];omega
  ·rcases Nat.lt_or_ge n J.length with q |q
   ·rw[ij J n dg q];exact q
   ·have:n=J.length:=u;subst this;rw[tJ];exact ca _
  ·subst h;rw[tJ]
structure jh (w aq:bk) (b:Nat):Prop where
 os:aq.os=w.os
 tape:aq.tape=w.tape
 output:aq.output=w.output
 size:aq.heap.size=w.heap.size
 blocks: ∀k,k≠b->aq.heap[k]? =w.heap[k]?
theorem jh.refl (w:bk) (b:Nat):jh w w b:=⟨rfl,rfl,rfl,rfl,λ_ _=>rfl⟩
theorem jh.trans {D9:bk} {b:Nat} (g:jh w aq b) (k:jh aq D9 b):jh w D9 b:=
 ⟨k.os.trans g.os,k.tape.trans g.tape,k.output.trans g.output,k.size.trans g.size,λi E=>(k.blocks i E).trans (g.blocks i E)⟩
theorem jh.cell {b:Nat} (g:jh w aq b) {c k:Nat} (L:c≠b):aq.cell? ⟨c,k,none⟩=w.cell? ⟨c,k,none⟩:=by simp[World.cell?,g.blocks c L]
theorem Br [Env] (h:cg φ ι w J) {o b:Nat} (W:(aF J o).owns=true) (L:dM (ι o)=some b) (g:jh w aq b) (kx: ∀k,¬φ b k) {dg:aG} (dB:jz φ ι aq o dg) (fr: ∀i∈dg.ids,(aF J i).live=true) (gP:dg.owns=true):
  cg φ ι aq (b8 J o dg)/\Step φ ι w J φ ι aq (b8 J o dg)/\eo ι J ι (b8 J o dg)/\iW J n (b8 J o dg) n:=by
 have fs: ∀i,(aF J i).owns=true->(aF J i).live=true:=λi W=>by cases dB:aF J i<;>rw[dB]at W<;>first |rfl |(cases W)
 have bu:=gM (fs o W);have bO: ∀i,aF (b8 J o dg) i=if i=o then dg else aF J i:=λi=>gL J o dg i (Nat.le_of_lt bu)
 have avn:dg.live=true:=by cases dg<;>first |rfl |(cases gP)
 have q7: ∀i,(aF (b8 J o dg) i).live=(aF J i).live:=λi=>by
  rw[bO];split
  ·rename_i e;subst e;rw[avn,fs i W]
  ·rfl
 have ad: ∀i,(aF J i).live=true->(aF (b8 J o dg) i).live=true:=λi h=>by rw[q7];exact h
 have C4: ∀c k,φ c k->aq.cell? ⟨c,k,none⟩=w.cell? ⟨c,k,none⟩:=λc k aw=>g.cell (λe=>kx k (e▸aw))
 refine ⟨h.update (λi=>i=o) (λi eG=>by rw[bO,if_neg eG]) (λ_ _=>rfl) ad ?_ ?_ (λi c eG jn aw=>g.blocks c ?_) C4 ?_,?_,⟨λ_ _=>rfl,ad⟩,?_⟩
 ·rintro i rfl;rw[bO,if_pos rfl];exact dB
 ·rintro i rfl j ak;rw[bO,if_pos rfl]at ak;exact ad j (fr j ak)
 ·rintro rfl;exact eG (h.apart i o c jn W aw L)
 ·rintro i j c rfl q G ab aE;by_cases ak:j=i
  ·exact ak.symm
  ·rw[bO,if_neg ak]at G;exact h.apart i j c W G ab aE
 ·refine ⟨λ_ _ h=>h,C4,λ_ _ h=>.inl h,by rw[g.size];exact ca _,g.os,g.tape,g.output,λc aw aO=>g.blocks c (λe=>aO ⟨o,W,e▸L⟩),λc aw=> ?_⟩;obtain ⟨i,q,G⟩:=aw;rw[bO]at q;split at q
  ·rename_i e;subst e;exact .inr ⟨i,W,G⟩
  ·exact .inr ⟨i,q,G⟩
 ·exact ⟨ca _,by rw[ij J o dg bu];exact ca _,λh=>by rw[ij J o dg bu];exact h,λi _=>q7 i,λh=>by rw[ij J o dg bu,h]⟩
theorem Of (pre cur:Array az) (news:List az) (a l:Nat):((pre++cur).toList.take (pre.size+a)++news++(pre++cur).toList.drop (pre.size+a+l)).toArray=pre++(cur.toList.take a++news++cur.toList.drop (a+l)).toArray:=by
 apply Array.ext';have q:(pre++cur).toList.take (pre.size+a)=pre.toList++cur.toList.take a:=by rw[Array.toList_append,show pre.size=pre.toList.length by simp,List.take_length_add_append]
 have G:(pre++cur).toList.drop (pre.size+a+l)=cur.toList.drop (a+l):=by rw[Array.toList_append,show pre.size+a+l=pre.toList.length+(a+l) by simp;omega,<-List.drop_drop,List.drop_left]
 rw[q,G];simp
theorem GN (pre cur:Array az) (k:Nat):(pre++cur)[pre.size+k]? =cur[k]? :=by rw[Array.getElem?_append_right u,show pre.size+k-pre.size=k by omega]
theorem ajP (pre cur:Array az) (k:Nat):(pre++cur).toList.drop (pre.size+k)=cur.toList.drop k:=by rw[Array.toList_append,show pre.size+k=pre.toList.length+k by simp,<-List.drop_drop,List.drop_left]
theorem JH (P:cv) {b:Nat} {e:bq} {c6:Nat×Nat} (o:Nat): ∀(aP:List az) (i:Nat) (cur:Array az) (w:bk),w.heap[b]? =some (.cells cur e c6)->sQ c6 cur.size->o+i+aP.length<=cur.size->(∀v∈aP,v.oneCell'=true)->
  ∃aq,(storeCells ⟨b,o,none⟩ aP i).run P w=.ok () aq/\aq.heap[b]? =some (.cells (cur.toList.take (o+i)++aP++cur.toList.drop (o+i+aP.length)).toArray e c6)/\jh w aq b
 |[],i,cur,w,L,aM,ad,q=>⟨w,rfl,by simp[L],jh.refl w b⟩
 |v::r,i,cur,w,L,aM,ad,q=>by
  simp only[iy]at ad;have bu:o+i<cur.size:=u;have aw:w.cell? ⟨b,o+i,none⟩=some cur[o+i]:=by rw[qd L,Array.getElem?_eq_getElem bu]
  have bI:w.frozen? ⟨b,o+i,none⟩=false:=by have:=aM (o+i) bu;simp only[World.frozen?,L];simp only[Bool.and_eq_false_iff,decide_eq_false_iff_not];omega
  have gE:(store ((⟨b,o,none⟩:Addr).add i) v).run P w=.ok () (w.setCell ⟨b,o+i,none⟩ v):=by rw[hI,run_store P w _ v _ (q v aU),aw];simp[bI]
  have fl:(w.setCell ⟨b,o+i,none⟩ v).heap[b]? =some (.cells (cur.setIfInBounds (o+i) v) e c6):=by simp only[World.setCell,Array.getElem?_modify,L,if_pos,Option.map_some];simp
  have gY:jh w (w.setCell ⟨b,o+i,none⟩ v) b:=⟨rfl,rfl,rfl,by simp[World.setCell],λk af=>Below.heap_setCell w _ v k af⟩;obtain ⟨aq,G,ab,aE⟩:=JH P o r (i+1) (cur.setIfInBounds (o+i) v) (w.setCell ⟨b,o+i,none⟩ v) fl (by simpa using aM) (by simp;omega) (λx al=>q x (by simp[al]));refine ⟨aq,?_,?_,gY.trans aE⟩
  ·simp only[storeCells,Sem.run_bind,gE,Result.andThen_ok,G]
  ·rw[ab];congr 2;apply Array.ext';simp only[Array.toList_setIfInBounds,iy];have CF:o+i<cur.toList.length:=by simpa using bu
   rw[show o+(i+1)=o+i+1 by omega,List.take_set,List.drop_set_of_lt u,List.take_succ_eq_append_getElem CF];have hlen:(cur.toList.take (o+i)).length=o+i:=by simp;omega
   rw[List.set_append_right _ _ u,hlen];simp[show o+i+1+r.length=o+i+(r.length+1) by omega]
end
open Go.RowKit
section
variable {P:cv} {cx:cj} {φ:bL} {ι aH:Nat->az} {w aq:bk} {J:List aG} {n:Nat} {r:K} {aA:List aG} {aJ:Nat}
mutual
theorem K.rel_one: ∀(r:K) (t:aB) (v:az),r.rel φ ι w v->r.fits t=true-> ∀ae∈v.cells.toList,ae.oneCell'=true
 | .dat ae x,t,v,h,aM=>h.1.one _ _ _
 | .nils _ ae,t,v,h,aM=>by simp only[K.rel]at h;subst h;intro ae hu;simp[Value.cells]at hu;subst hu;rfl
 | .own ae o,t,v,h,aM=>by obtain ⟨_,A,n,c,rfl⟩:=h;intro ae hu;simp[Value.cells]at hu;subst hu;rfl
 | .agg l,t,v,h,aM=>by obtain ⟨cs,rfl,h⟩:=h;exact K.relL_one l t cs.toList h (by simpa [K.fits] using aM)
 | .ptr o ae i p,t,v,h,aM=>by obtain ⟨b,_,_,rfl,_⟩:=h;intro ae hu;simp[Value.cells]at hu;subst hu;rfl
 | .fptr ae x,t,v,h,aM=>by obtain ⟨b,o,cs,rfl,_⟩:=h;intro ae hu;simp[Value.cells]at hu;subst hu;rfl
 | .fn f a b,t,v,h,aM=>by obtain ⟨x,y,rfl,_⟩:=h;intro ae hu;simp[Value.cells]at hu;subst hu;rfl
 | .iface T r,t,v,h,aM=>by obtain ⟨ae,rfl,_⟩:=h;intro ae hu;simp[Value.cells]at hu;subst hu;rfl
 | .nilI,t,v,h,aM=>by simp only[K.rel]at h;subst h;intro ae hu;simp[Value.cells]at hu;subst hu;rfl
 | .nilF,t,v,h,aM=>by simp only[K.rel]at h;subst h;intro ae hu;simp[Value.cells]at hu;subst hu;rfl
 | .nilP,t,v,h,aM=>by simp only[K.rel]at h;subst h;intro ae hu;simp[Value.cells]at hu;subst hu;rfl
 | .undef,_,_,_,aM=>by simp[K.fits]at aM
 | .atl _,_,_,_,aM=>by simp[K.fits]at aM
 | .lim ..,_,_,_,aM=>by simp[K.fits]at aM
 | .yld Y o,t,v,h,aM=>by obtain ⟨_,l,rfl⟩:=h;intro ae hu;simp[Value.cells]at hu;subst hu;rfl
 | .gp ..,_,_,_,aM=>by simp[K.fits]at aM
 | .dfr ..,_,_,_,aM=>by simp[K.fits]at aM
 | .clip ..,_,_,_,aM=>by simp[K.fits]at aM
 | .nilv,_,_,_,aM=>by simp[K.fits]at aM
 | .view ..,_,_,_,aM=>by simp[K.fits]at aM
 | .tup _,_,_,_,aM=>by simp[K.fits]at aM
theorem K.relL_one: ∀(l:List K) (t:aB) (cs:List az),K.relL φ ι w l cs->K.fitsL l t=true-> ∀ae∈cs,ae.oneCell'=true
 |[],t,cs,h,aM=>by simp only[K.relL]at h;subst h;simp
 |r::l,t,cs,⟨v,ba,e,q,G⟩,aM=>by
  subst e;cases t with
  |pair a b=>
   simp only[K.fitsL,bQ]at aM;intro ae hu;rcases dp.1 hu with hu |hu
   ·exact K.rel_one r a v q aM.1 ae hu
   ·exact K.relL_one l b ba G aM.2 ae hu
  |_=>simp[K.fitsL]at aM
end
theorem xl {T:bq} {v:az} (h:r.rel φ ι w v):(cx.typ T r).rel φ ι w v:=by
 unfold cj.typ;split
 ·split
  ·split
   ·exact h
   ·trivial
  ·trivial
 ·exact h
theorem xk {T:bq}: ∀i∈(cx.typ T r).ids,i∈r.ids:=by
 unfold cj.typ;split
 ·split
  ·split<;>simp[K.ids]
  ·simp[K.ids]
 ·exact λ_ h=>h
theorem NR [Env] {x:K} (e:(Bq x).go J n=some (r,aA,aJ)) (h:cg φ ι w J) {v:az} (al:x.rel φ ι w v) (fG: ∀i∈x.ids,(aF J i).live=true):
  aJ=n/\ ∃av,fe φ ι w J av aA/\r.rel av ι w v/\ ∀i∈r.ids,(aF aA i).live=true:=by
 unfold Bq at e;split at e
 ·obtain ⟨I,H1,dm,M,V⟩:=HM.go_bind_some e;obtain ⟨rfl,rfl,rfl⟩:=go_ret V;obtain ⟨aO,av,g,a8⟩:=tD _ φ v J n I aA aJ M h al fG;exact ⟨aO,av,g,h2 a8,by simp[K.ids]⟩
 ·obtain ⟨rfl,rfl,rfl⟩:=go_ret e;obtain ⟨A,m,rfl,aw⟩:=al;exact ⟨rfl,φ,fe.refl h,h2 ⟨aw,rfl⟩,by simp[K.ids]⟩
 ·obtain ⟨rfl,rfl,rfl⟩:=go_ret e;exact ⟨rfl,φ,fe.refl h,al,fG⟩
theorem ab4 (m:Nat):sQ (0,0) m:=λk _ h=>u
theorem uy (t:aB) (m:Nat):x6 t (0,0) m:=⟨ab4 m,.inr aU⟩
def jg (J:List aG) (n aJ:Nat):Prop:=n<=J.length/\ ∀i,n<=i->i<aJ->(aF J i).live=false
theorem jg.ghost [Env] {av:bL} (f:jg J n aJ) (g:fe φ ι w J av aA):jg aA n aJ:=⟨by rw[g.len];exact f.1,λi q G=>by rw[g.live];exact f.2 i q G⟩
theorem asr (T:bq) (v:az):(newVar T v).run P w=.ok ⟨w.heap.size,0,none⟩ (w.alloc (.cells v.cells T)):=by simp[newVar,newRow]
theorem ak5 [Env] (h:cg φ ι w J) {T:bq} {t:aB} {v:az} (ar:r.rel φ ι w v) (aM:r.fits t=true) (ad: ∀i∈r.ids,(aF J i).live=true) (aO:n<=J.length) (h4:(aF J n).live=false) (aW:(t.at_ []).isSome=true):
  cG φ ι w J n (.ptr n t 0 []) (b8 J n (.box T t r)) (n+1) (.ok (.pointer (some ⟨w.heap.size,0,none⟩)) (w.alloc (.cells v.cells T))):=by
 obtain ⟨ea,_⟩:=K.rel_fits r t v ar aM;have cw: ∀i∈r.ids,i≠n:=λi E e=>by have:=ad i E;rw[e,h4]at this;cases this
 have g:=ic.alloc w (.cells v.cells T);have L:(w.alloc (.cells v.cells T)).heap[w.heap.size]? =some (.cells v.cells T (0,0)):=heap_alloc_new w _;have rb:r.rel φ (eg ι n (.pointer (some ⟨w.heap.size,0,none⟩))) (w.alloc (.cells v.cells T)) v:=
  K.rel_mono (λ_ _ h=>h) (λb k L=>g.cell (kR h L)) r v (λi E=>by simp[eg,cw i E]) ar
 obtain ⟨q,G,ab,aE⟩:=Bs (v:=.pointer (some ⟨w.heap.size,0,none⟩)) (dg:=.box T t r) h aO h4 g
  ⟨w.heap.size,v.cells,(0,0),v,by simp[eg],L,ea,ab4 _,K.rel_one r t v ar aM,rb,rfl,aM,λk af=>by have:=kR h af;omega⟩ ad rfl
  (λb L=>by
          have:w.heap.size=b:=by simpa [dM] using L
          omega)
 refine ⟨_,_,φ,_,rfl,q,G,ab,aE,xj ⟨w.heap.size,0,.inr ⟨by simp[eg],rfl,rfl⟩,by simp[aB.offAt],aW⟩,?_⟩;intro i E;have:i=n:=by simpa [K.ids] using E
 subst this;rw[gL J i _ i aO,if_pos rfl];rfl
theorem aau [Env] (tab:cN P cx) {T:bq} {x:K} (e:(Bh cx T x).go J n=some (r,aA,aJ)) (h:cg φ ι w J) {v:az} (al:x.rel φ ι w v) (fG: ∀i∈x.ids,(aF J i).live=true) (ed:jg J n aJ):
  cG φ ι w J n r aA aJ ((Instr.box T v).run P w):=by
 unfold Bh at e;split at e
 ·rename_i i E;obtain ⟨y,H1,dm,M,V⟩:=HM.go_bind_some e;clear e;obtain ⟨rfl,dE,g1,bt,tk⟩:=NR M h (xl al) (λi E=>fG i (xk i E));have s:=go_bif V;clear V;obtain ⟨aM,V⟩:=s;simp only[HM.go,bJ,c0]at V;obtain ⟨rfl,rfl,rfl⟩:=V;have kt:=ed.ghost g1;obtain ⟨lx,aq,av,aH,bd,a6,cp,eh,gZ,ir,td⟩:=ak5 (T:=T) g1.rel bt aM tk kt.1 (kt.2 dm (ca _) u) rfl;injection bd with bd Sm
  subst bd Sm;exact ⟨_,_,av,aH,by simp[Instr.box,asr],a6,g1.step.trans cp,g1.keep.trans eh,(g1.nx _).trans gZ,ir,td⟩
 ·simp[HM.go]at e
theorem abI (tab:cN P cx) {T:bq} {z:K} (bI:cx.zeroRV 20 T=some z) (E: ∃i,cx.ti T=some i): ∃i v,cx.ti T=some i/\(∀w,(zeroValue T).run P w=.ok v w)/\v.cells.size=i.ty.size/\j9 v=i.ty.isAgg/\z.fits i.ty=true/\z.ids=[]/\ ∀φ ι w,z.rel φ ι w v:=by obtain ⟨i,E⟩:=E;obtain ⟨info,q,G,ab⟩:=(tab T i E).info;obtain ⟨v,bd,a6,cp,eh,gZ,ir⟩:=ab z bI;exact ⟨i,v,E,λw=>by simp[zeroValue,typeInfo,q,bd],a6,cp,eh,gZ,ir⟩
theorem aot [Env] (tab:cN P cx) {T:bq} (e:(O4 cx T).go J n=some (r,aA,aJ)) (h:cg φ ι w J) (ed:jg J n aJ):
  cG φ ι w J n r aA aJ ((Instr.alloc T true (.tuple #[])).run P w):=by
 unfold O4 at e;split at e
 ·rename_i z bI;have E: ∃i,cx.ti T=some i:=by
   cases E:cx.ti T with
   |some i=>exact ⟨i,rfl⟩
   |none=>simp[Bh,E,HM.go]at e
  obtain ⟨i,v,_,eU,_,_,_,fr,ar⟩:=abI tab bI E;have:=aau tab e h (ar φ ι w) (by rw[fr];simp) ed;have V:(Instr.alloc T true (.tuple #[])).run P w=(Instr.box T v).run P w:=by unfold Instr.alloc;simp[eU,Instr.box]
  rw[V];exact this
 ·simp[HM.go]at e
end
end Go.X
