import Derived.Test.YtmmmpanpbphkdaaGreatDoorXB
import Derived.ProofKit
import Derived.OpenShut
import Derived.DataElems
import Derived.SizedLaws
import Derived.WalkKit
import Derived.ShutString
import Derived.Laws.StructEq
import Derived.Lib.Strings
import Derived.Lib.Slices
import Derived.Lib.Walk
import Derived.Lib.Bytealg
set_option linter.unusedVariables false
set_option linter.unusedSimpArgs false
namespace Go.X
open Go.RowKit
def ea (p q:cI):cI:=⟨q.rd++p.rd,q.fz++p.fz,q.wr++p.wr⟩
theorem aaF {α:Type} (x:HM α): ∀(h:List aG) (n:Nat) (p:cI),(x.run h n p).val=(x.run h n .none).val.map fun r=>(r.1,r.2.1,r.2.2.1,ea p r.2.2.2):=by
 induction x with
 |ret a=>intro h n p;simp[HM.run,DT.val,ea,cI.none]
 |fail=>intro h n p;simp[HM.run,DT.val]
 |br b x y hP hQ=>intro h n p;cases b<;>simp[HM.run,DT.val]<;>first |exact hP h n p |exact hQ h n p
 |opt o k aO=>intro h n p;cases o<;>simp[HM.run,DT.val];exact aO _ h n p
 |alt o k l nA th=>
  intro h n p;cases o with
  |none=>simp[HM.run,DT.val]
  |some r=>cases r<;>simp[HM.run,DT.val]<;>first |exact nA _ h n p |exact th _ h n p
 |rdc o k aO=>
  intro h n p;simp only[HM.run];rw[aO _ h n ⟨o::p.rd,p.fz,p.wr⟩,aO _ h n ⟨o::cI.none.rd,cI.none.fz,cI.none.wr⟩,Option.map_map];congr 1;funext r;simp[ea,cI.none]
 |frz o k aO=>
  intro h n p;simp only[HM.run];rw[aO _ n ⟨p.rd,o::p.fz,p.wr⟩,aO _ n ⟨cI.none.rd,o::cI.none.fz,cI.none.wr⟩,Option.map_map];congr 1;funext r;simp[ea,cI.none]
 |rdw o k aO=>
  intro h n p;simp only[HM.run];rw[aO _ h n ⟨p.rd,p.fz,o::p.wr⟩,aO _ h n ⟨cI.none.rd,cI.none.fz,o::cI.none.wr⟩,Option.map_map];congr 1;funext r;simp[ea,cI.none]
 |wr o b k aO=>
  intro h n p;simp only[HM.run];rw[aO _ n ⟨p.rd,p.fz,o::p.wr⟩,aO _ n ⟨cI.none.rd,cI.none.fz,o::cI.none.wr⟩,Option.map_map];congr 1;funext r;simp[ea,cI.none]
 |nw b k aO=>
  intro h n p;simp only[HM.run];rw[aO _ _ _ ⟨p.rd,p.fz,n::p.wr⟩,aO _ _ _ ⟨cI.none.rd,cI.none.fz,n::cI.none.wr⟩,Option.map_map];congr 1;funext r;simp[ea,cI.none]
 |nxt k aO=>intro h n p;simp only[HM.run];exact aO _ h n p
theorem yd {α:Type} {x:HM α} {h:List aG} {n:Nat} {p:cI} {a:α} {cb:List aG} {aJ:Nat} {q:cI} (e:(x.run h n p).val=some (a,cb,aJ,q)): ∃bj,(x.run h n .none).val=some (a,cb,aJ,bj)/\q=ea p bj:=by
 rw[aaF]at e;obtain ⟨⟨eo,aa,cC,bj⟩,ai,aq⟩:=Option.map_eq_some_iff.1 e;simp only[cw]at aq;obtain ⟨rfl,rfl,rfl,rfl⟩:=aq;exact ⟨bj,ai,rfl⟩
theorem yr {α:Type} {x:HM α} {h:List aG} {n:Nat} {p:cI} {a:α} {cb:List aG} {aJ:Nat} {bj:cI} (e:(x.run h n .none).val=some (a,cb,aJ,bj)):(x.run h n p).val=some (a,cb,aJ,ea p bj):=by
 rw[aaF,e];rfl
structure p7 (L:Nat) (q:cI):Prop where
 rd: ∀o∈q.rd,o<L
 fz: ∀o∈q.fz,o<L
 wr: ∀o∈q.wr,o<L
theorem p7.of {L:Nat} {q:cI} (h:CO L q=true):p7 L q:=by
 simp only[CO,bB,List.all_eq_true]at h;exact ⟨fun o an=>by simpa using h.1.1 o an,fun o an=>by simpa using h.1.2 o an,fun o an=>by simpa using h.2 o an⟩
theorem p7.tail {L:Nat} {p q:cI} (h:p7 L (ea p q)):p7 L q:=⟨fun o an=>h.rd o (List.mem_append.2 (.inl an)),fun o an=>h.fz o (List.mem_append.2 (.inl an)),fun o an=>h.wr o (List.mem_append.2 (.inl an))⟩
def lf (b:Prop) [Decidable b] (x:aG):aG:=if b then x.freeze else x
theorem al2 (b:aG):b.freeze.freeze=b.freeze:=by cases b<;>rfl
theorem Ks (b:aG):b.freeze.mask=b.mask:=by cases b<;>rfl
theorem YC {p:Prop} [Decidable p] (b:aG):(lf p b).mask=b.mask:=by unfold lf;split<;>simp[Ks]
structure Ii (h:List aG) (q:cI) (cb:List aG):Prop where
 len:cb.length=h.length
 other: ∀o,o∉q.wr->aF cb o=lf (o∈q.fz) (aF h o)
theorem DD {α:Type} (x:HM α): ∀(h ad:List aG) (n:Nat) (a:α) (cb:List aG) (aJ:Nat) (q:cI),(x.run h n .none).val=some (a,cb,aJ,q)->p7 h.length q->ad.length=h.length->
  (∀o∈q.rd,(aF h o).mask=(aF ad o).mask)->(∀o∈q.wr,aF h o=aF ad o)->
  ∃gO,(x.run ad n .none).val=some (a,gO,aJ,q)/\Ii h q cb/\Ii ad q gO/\ ∀o∈q.wr,aF gO o=aF cb o:=by
 induction x with
 |ret a=>
  intro h ad n b cb aJ q e lt ao aA hw;simp only[HM.run,DT.val,bt,cw]at e;obtain ⟨rfl,rfl,rfl,rfl⟩:=e;exact ⟨ad,rfl,⟨rfl,fun o _=>by simp[lf,cI.none]⟩,⟨rfl,fun o _=>by simp[lf,cI.none]⟩,fun o an=>by simp[cI.none]at an⟩
 |fail=>intro h ad n b cb aJ q e;simp[HM.run,DT.val]at e
 |br b x y hP hQ=>
  intro h ad n a cb aJ q e lt ao aA hw;cases b
  ·exact hQ h ad n a cb aJ q e lt ao aA hw
  ·exact hP h ad n a cb aJ q e lt ao aA hw
 |opt o k aO=>
  intro h ad n a cb aJ q e lt ao aA hw;cases o with
  |none=>simp[HM.run,DT.val]at e
  |some r=>exact aO r h ad n a cb aJ q e lt ao aA hw
 |alt o k l nA th=>
  intro h ad n a cb aJ q e lt ao aA hw;cases o with
  |none=>simp[HM.run,DT.val]at e
  |some r=>cases r with
   |inl r=>exact nA r h ad n a cb aJ q e lt ao aA hw
   |inr r=>exact th r h ad n a cb aJ q e lt ao aA hw
 |rdc o k aO=>
  intro h ad n a cb aJ q e lt ao aA hw;simp only[HM.run]at e;obtain ⟨bj,ai,rfl⟩:=yd e;have an:(aF h o).mask=(aF ad o).mask:=aA o (by simp[ea]);obtain ⟨gO,au,aL,bF,cN⟩:=aO _ h ad n a cb aJ bj ai lt.tail ao (fun i ab=>aA i (by simp[ea,ab])) (fun i ab=>hw i (by simp[ea,ab]));refine ⟨gO,?_,⟨aL.len,fun i ab=> ?_⟩,⟨bF.len,fun i ab=> ?_⟩,fun i ab=>cN i (by simpa [ea,cI.none] using ab)⟩
  ·simp only[HM.run];rw[<-an];exact yr au
  ·have:=aL.other i (by simpa [ea,cI.none] using ab);simpa [ea,cI.none] using this
  ·have:=bF.other i (by simpa [ea,cI.none] using ab);simpa [ea,cI.none] using this
 |frz o k aO=>
  intro h ad n a cb aJ q e lt ao aA hw;simp only[HM.run]at e;obtain ⟨bj,ai,rfl⟩:=yd e;have Al:o<h.length:=lt.fz o (by simp[ea]);have de:=gM h o (aF h o).freeze Al;have cP:=gM ad o (aF ad o).freeze (by omega);have g1:=fun i=>fm h o (aF h o).freeze i (by omega)
  have g2:=fun i=>fm ad o (aF ad o).freeze i (by omega)
  obtain ⟨gO,au,aL,bF,cN⟩:=aO _ (bM ad o (aF ad o).freeze) n a cb aJ bj ai (by rw[de];exact lt.tail) (by omega) (fun i ab=>by
    have:=aA i (by simp[ea,ab]);rw[g1,g2];split
    ·rename_i h;subst h;rw[Ks,Ks];exact this
    ·exact this) (fun i ab=>by
    have:=hw i (by simp[ea,ab]);rw[g1,g2];split
    ·rename_i h;subst h;rw[this]
    ·exact this)
  have fin: ∀{x oG:List aG},(∀i,aF (bM x o (aF x o).freeze) i=if i=o then (aF x o).freeze else aF x i)->(∀i,i∉bj.wr->aF oG i=lf (i∈bj.fz) (aF (bM x o (aF x o).freeze) i))->
    ∀i,i∉(ea ⟨cI.none.rd,o::cI.none.fz,cI.none.wr⟩ bj).wr->aF oG i=lf (i∈(ea ⟨cI.none.rd,o::cI.none.fz,cI.none.wr⟩ bj).fz) (aF x i):=by
   intro x oG g r i ab;rw[r i (by simpa [ea,cI.none] using ab),g];by_cases hM:i=o
   ·subst hM;simp only[if_true,ea,cI.none,lf];simp[al2]
   ·simp[ea,cI.none,lf,hM]
  refine ⟨gO,?_,⟨aL.len.trans de,fin g1 aL.other⟩,⟨bF.len.trans cP,fin g2 bF.other⟩,fun i ab=>cN i (by simpa [ea,cI.none] using ab)⟩;simp only[HM.run];exact yr au
 |rdw o k aO=>
  intro h ad n a cb aJ q e lt ao aA hw;simp only[HM.run]at e;obtain ⟨bj,ai,rfl⟩:=yd e;have an:aF h o=aF ad o:=hw o (by simp[ea]);obtain ⟨gO,au,aL,bF,cN⟩:=aO _ h ad n a cb aJ bj ai lt.tail ao (fun i ab=>aA i (by simp[ea,ab])) (fun i ab=>hw i (by simp[ea,ab]));refine ⟨gO,?_,⟨aL.len,fun i ab=> ?_⟩,⟨bF.len,fun i ab=> ?_⟩,fun i ab=> ?_⟩
  ·simp only[HM.run];rw[<-an];exact yr au
  ·simp only[ea,cI.none,List.mem_append,List.mem_cons,List.not_mem_nil,or_false,not_or]at ab;have:=aL.other i ab.1;simpa [ea,cI.none] using this
  ·simp only[ea,cI.none,List.mem_append,List.mem_cons,List.not_mem_nil,or_false,not_or]at ab;have:=bF.other i ab.1;simpa [ea,cI.none] using this
  ·by_cases fI:i∈bj.wr
   ·exact cN i fI
   ·rw[bF.other i fI,aL.other i fI,hw i ab]
 |wr o b k aO=>
  intro h ad n a cb aJ q e lt ao aA hw;simp only[HM.run]at e;obtain ⟨bj,ai,rfl⟩:=yd e;have Al:o<h.length:=lt.wr o (by simp[ea]);have de:=gM h o b Al;have cP:=gM ad o b (by omega);have g1:=fun i=>fm h o b i (by omega)
  have g2:=fun i=>fm ad o b i (by omega)
  obtain ⟨gO,au,aL,bF,cN⟩:=aO _ (bM ad o b) n a cb aJ bj ai (by rw[de];exact lt.tail) (by omega) (fun i ab=>by
    have:=aA i (by simp[ea,ab]);rw[g1,g2];split
    ·rfl
    ·exact this) (fun i ab=>by
    have:=hw i (by simp[ea,ab]);rw[g1,g2];split
    ·rfl
    ·exact this)
  refine ⟨gO,?_,⟨aL.len.trans de,fun i ab=> ?_⟩,⟨bF.len.trans cP,fun i ab=> ?_⟩,fun i ab=> ?_⟩
  ·simp only[HM.run];exact yr au
  ·simp only[ea,cI.none,List.mem_append,List.mem_cons,List.not_mem_nil,or_false,not_or]at ab;have:=aL.other i ab.1;rw[g1,if_neg ab.2]at this;simpa [ea,cI.none] using this
  ·simp only[ea,cI.none,List.mem_append,List.mem_cons,List.not_mem_nil,or_false,not_or]at ab;have:=bF.other i ab.1;rw[g2,if_neg ab.2]at this;simpa [ea,cI.none] using this
  ·by_cases fI:i∈bj.wr
   ·exact cN i fI
   ·rw[bF.other i fI,aL.other i fI,g1,g2];split
    ·rfl
    ·rw[hw i ab]
 |nw b k aO=>
  intro h ad n a cb aJ q e lt ao aA hw;simp only[HM.run]at e;obtain ⟨bj,ai,rfl⟩:=yd e;have Al:n<h.length:=lt.wr n (by simp[ea]);have de:=gM h n b Al;have cP:=gM ad n b (by omega);have g1:=fun i=>fm h n b i (by omega)
  have g2:=fun i=>fm ad n b i (by omega)
  obtain ⟨gO,au,aL,bF,cN⟩:=aO n _ (bM ad n b) (n+1) a cb aJ bj ai (by rw[de];exact lt.tail) (by omega) (fun i ab=>by
    have:=aA i (by simp[ea,ab]);rw[g1,g2];split
    ·rfl
    ·exact this) (fun i ab=>by
    have:=hw i (by simp[ea,ab]);rw[g1,g2];split
    ·rfl
    ·exact this)
  refine ⟨gO,?_,⟨aL.len.trans de,fun i ab=> ?_⟩,⟨bF.len.trans cP,fun i ab=> ?_⟩,fun i ab=> ?_⟩
  ·simp only[HM.run];exact yr au
  ·simp only[ea,cI.none,List.mem_append,List.mem_cons,List.not_mem_nil,or_false,not_or]at ab;have:=aL.other i ab.1;rw[g1,if_neg ab.2]at this;simpa [ea,cI.none] using this
  ·simp only[ea,cI.none,List.mem_append,List.mem_cons,List.not_mem_nil,or_false,not_or]at ab;have:=bF.other i ab.1;rw[g2,if_neg ab.2]at this;simpa [ea,cI.none] using this
  ·by_cases fI:i∈bj.wr
   ·exact cN i fI
   ·rw[bF.other i fI,aL.other i fI,g1,g2];split
    ·rfl
    ·rw[hw i ab]
 |nxt k aO=>
  intro h ad n a cb aJ q e lt ao aA hw;exact aO n h ad n a cb aJ q e lt ao aA hw
open Go.RowKit
section
variable {P:Program} {cx:bS} {Γ:gi} {ops:Array Oper}
theorem XS [Env] {o:Oper} {ev ev':Operand->ae} (h: ∀x∈o.op.operands.toList,ev x=ev' x):lO cx Γ o ev=lO cx Γ o ev':=by
 obtain ⟨dst,op,ty,pos,after,guard⟩:=o;have mp: ∀ps:List (Nat×Operand),(∀x∈ps.map (·.2),ev x=ev' x)->(ps.map fun p=>(p.1,ev p.2))=ps.map fun p=>(p.1,ev' p.2):=fun ps aP=>
  List.map_congr_left fun p hm=>by rw[aP p.2 (List.mem_map.2 ⟨p,hm,rfl⟩)]
 have ml: ∀ps:List Operand,(∀x∈ps,ev x=ev' x)->ps.map ev=ps.map ev':=fun ps aP=>List.map_congr_left aP
 have O8: ∀ps:Option Operand,(∀x∈ps.toArray,ev x=ev' x)->ps.map ev=ps.map ev':=fun ps aP=>by
  cases ps with
  |none=>rfl
  |some x=>simp[aP x (by simp)]
 cases op<;>simp only[Op.operands]at h<;>simp only[lO]
 case move x=>rw[h x (by simp)]
 case assign x=>rw[h x (by simp)]
 case pick c a b=>rw[h c (by simp),h a (by simp),h b (by simp)]
 case box T x=>rw[h x (by simp)]
 case build T ps=>rw[mp ps.toList (fun x aw=>h x (by simpa using aw))]
 case buildSlice T m ps=>rw[mp ps.toList (fun x aw=>h x (by simpa using aw))]
 case load T x=>rw[h x (by simp)]
 case store T x y=>rw[h x (by simp),h y (by simp)]
 case nilCheck x=>rw[h x (by simp)]
 case binOp b T x y z=>rw[h x (by simp),h y (by simp)]
 case unOp b T x=>rw[h x (by simp)]
 case convert S T x=>rw[h x (by simp)]
 case makeInterface T x=>rw[h x (by simp)]
 case makeFunc f l m=>
  cases f
  case func f=>simp only;rw[ml l.toList (fun x aw=>h x (by simp;exact .inl (by simpa using aw))),ml m.toList (fun x aw=>h x (by simp;exact .inr (by simpa using aw)))]
  all_goals rfl
 case makeSlice T x y=>rw[h x (by simp),h y (by simp)]
 case slice T x l m k=>
  rw[h x (by simp),O8 l (fun y bf=>h y (by simp at bf ⊢;simp[bf])),O8 m (fun y bf=>h y (by simp at bf ⊢;simp[bf])),O8 k (fun y bf=>h y (by simp at bf ⊢;simp[bf]))]
 case fieldAddr T x f=>rw[h x (by simp)]
 case field T x f=>rw[h x (by simp)]
 case indexAddr T x y=>rw[h x (by simp),h y (by simp)]
 case index T x y=>rw[h x (by simp),h y (by simp)]
 case extract x j=>rw[h x (by simp)]
 case range T x=>rw[h x (by simp)]
 case next x b=>rw[h x (by simp)]
 case call c=>
  have aa:c.args.toList.map ev=c.args.toList.map ev':=ml _ fun x aw=>h x (by simp[Call.operands];exact .inr (by simpa using aw))
  rw[aa];cases aB:c.callee with
  |builtin b=>rfl
  |value f=>simp only;rw[h f (by simp[Call.operands,aB])]
  |invoke r m=>simp only;rw[h r (by simp[Call.operands,aB])]
def sv (ops:Array Oper) (R:bD) (o:Oper):Option Bool:=match o.guard with
 |none=>some true
 |some (j,want)=>match (ops[j]?).bind (·.dst) with
  |some d=>match (R.get d).bind kS with
   |some b=>some (y2 b want)
   |none=>match R.get d with
    |some (.tup [])=>some false
    |_=>none
  |none=>none
def o0 [Env] (cx:bS) (Γ:gi) (o:Oper) (R:bD) (b:Bool):HM ae:=bif b then lO cx Γ o (gB R) else .ret (.tup [])
theorem La [Env] {o:Oper} {R R':bD} (h: ∀d∈pY ops o,R.get d=R'.get d):sv ops R o=sv ops R' o/\ ∀b,o0 cx Γ o R b=o0 cx Γ o R' b:=by
 constructor
 ·unfold sv;cases bH:o.guard with
  |none=>rfl
  |some AJ=>
   obtain ⟨j,want⟩:=AJ;simp only;cases ay:(ops[j]?).bind (·.dst) with
   |none=>rfl
   |some d=>
    simp only;rw[h d (by simp[pY,Oper.looksAt,bH,ay])]
 ·intro b;unfold o0;rw[XS (ev:=gB R) (ev':=gB R')];intro x aw;cases x with
  |tmp t=>simp only[gB];rw[h t (by simp only[pY,Oper.looksAt,List.mem_append,List.mem_filterMap];exact .inl ⟨.tmp t,aw,rfl⟩)]
  |const v=>rfl
  |global g=>rfl
  |func f=>rfl
theorem tS (R:bD) (d:Option Tmp) (r:ae) (e:Nat):(km R d r).get e=if d=some e then some r else R.get e:=by
 cases d with
 |none=>simp[km]
 |some d=>
  simp only[km,bD.get_put,bt];by_cases h:e=d
  ·subst h;simp
  ·rw[if_neg h,if_neg (fun cb=>h cb.symm)]
theorem C2 [Env] {o:Oper} {st b9:bn} {nx n:Nat} {p:cI}:(sq cx Γ o st nx).val=some (b9,n,p)↔ ∃r,((lO cx Γ o (gB st.regs)).run st.heap nx .none).val=some (r,b9.heap,n,p)/\b9.regs=km st.regs o.dst r:=by
 unfold sq;constructor
 ·intro e;obtain ⟨⟨r,h,m,q⟩,ai,aq⟩:=DT.val_bind_some e;simp only[DT.val,bt,cw]at aq;obtain ⟨rfl,rfl,rfl⟩:=aq;exact ⟨r,ai,rfl⟩
 ·rintro ⟨r,ai,aq⟩;rw[DT.val_bind,ai];obtain ⟨h0,H1⟩:=b9;simp only at aq;subst aq;rfl
theorem YH [Env] {o:Oper} {R R':bD} (h: ∀e,R.get e=R'.get e):lO cx Γ o (gB R)=lO cx Γ o (gB R'):=by
 refine XS fun x _=> ?_
 cases x with
 |tmp t=>simp only[gB];rw[h t]
 |const v=>rfl
 |global g=>rfl
 |func f=>rfl
theorem Dt {R R':bD} (h: ∀e,R.get e=R'.get e) (d:Option Tmp) (r:ae) (e:Nat):(km R d r).get e=(km R' d r).get e:=by rw[tS,tS,h]
theorem x8 [Env] {o:Oper} {st b9:bn} {nx n:Nat} {p:cI} (e:(oy cx Γ ops o st nx).val=some (b9,n,p)):
  ∃b r,sv ops st.regs o=some b/\((o0 cx Γ o st.regs b).run st.heap nx .none).val=some (r,b9.heap,n,p)/\ ∀e,b9.regs.get e=(km st.regs o.dst r).get e:=by
 unfold oy at e;unfold sv;cases bH:o.guard with
 |none=>
  simp only[bH]at e;obtain ⟨r,aa,ad⟩:=C2.1 e;exact ⟨true,r,rfl,aa,fun e=>by rw[ad]⟩
 |some AJ=>
  obtain ⟨j,want⟩:=AJ;simp only[bH]at e ⊢;cases ay:(ops[j]?).bind (·.dst) with
  |none=>simp[ay,DT.val]at e
  |some d=>
   simp only[ay]at e ⊢;cases ag:(st.regs.get d).bind kS with
   |none=>
    simp only[ag]at e ⊢;split at e
    ·rename_i bo;simp only[DT.val,bt,cw]at e;obtain ⟨rfl,rfl,rfl⟩:=e;exact ⟨false,.tup [],by simp only[bo],rfl,fun _=>rfl⟩
    ·simp[DT.val]at e
   |some b=>
    have bo:=Ca ag;simp only[ag,DT.val]at e ⊢;cases ab:y2 b want
    ·have nj:b= !want:=by cases b<;>cases want<;>first |rfl |cases ab
     simp only[ab,aM,bt,cw]at e;obtain ⟨rfl,rfl,rfl⟩:=e;exact ⟨false,.tup [],rfl,rfl,Dt (rH (by rw[bo,nj])) _ _⟩
    ·have nj:b=want:=by cases b<;>cases want<;>first |rfl |cases ab
     simp only[ab,az]at e;obtain ⟨r,aa,ad⟩:=C2.1 e;have aA:=rH (R:=st.regs) (d:=d) (b:=want) (by rw[bo,nj]);refine ⟨true,r,rfl,?_,fun e=> ?_⟩
     ·simp only[o0,az];rw[<-YH aA];exact aa
     ·rw[ad];exact Dt aA _ _ e
theorem KW [Env] {o:Oper} {st:bn} {h:List aG} {nx n:Nat} {p:cI} {b:Bool} {r:ae} (aU:sv ops st.regs o=some b) (e:((o0 cx Γ o st.regs b).run st.heap nx .none).val=some (r,h,n,p)):
  ∃h0,(oy cx Γ ops o st nx).val=some (⟨h0,h⟩,n,p)/\ ∀e,h0.get e=(km st.regs o.dst r).get e:=by
 unfold sv at aU;unfold oy;cases bH:o.guard with
 |none=>
  simp only[bH,bt]at aU;subst aU;exact ⟨km st.regs o.dst r,C2.2 ⟨r,e,rfl⟩,fun _=>rfl⟩
 |some AJ=>
  obtain ⟨j,want⟩:=AJ;simp only[bH]at aU ⊢;cases ay:(ops[j]?).bind (·.dst) with
  |none=>simp[ay]at aU
  |some d=>
   simp only[ay]at aU ⊢;cases ag:(st.regs.get d).bind kS with
   |none=>
    simp only[ag]at aU ⊢;split at aU
    ·rename_i bo;simp only[bt]at aU;subst aU;simp only[o0,aM,HM.run,DT.val,bt,cw]at e;obtain ⟨rfl,rfl,rfl,rfl⟩:=e;refine ⟨km st.regs o.dst (.tup []),?_,fun _=>rfl⟩;simp only[bo,DT.val]
    ·cases aU
   |some bK=>
    have bo:=Ca ag;simp only[ag,bt]at aU;simp only[DT.val];rw[aU];cases b
    ·have nj:bK= !want:=by cases bK<;>cases want<;>first |rfl |cases aU
     simp only[o0,aM,HM.run,DT.val,bt,cw]at e ⊢;obtain ⟨rfl,rfl,rfl,rfl⟩:=e;exact ⟨_,⟨rfl,rfl,rfl⟩,Dt (rH (by rw[bo,nj])) _ _⟩
    ·have nj:bK=want:=by cases bK<;>cases want<;>first |rfl |cases aU
     have aA:=rH (R:=st.regs) (d:=d) (b:=want) (by rw[bo,nj]);simp only[o0,az]at e ⊢;rw[<-YH aA]at e;exact ⟨km (refine st.regs d want) o.dst r,C2.2 ⟨r,e,rfl⟩,Dt aA _ _⟩
def jz (a b:bn):Prop:=(∀d,a.regs.get d=b.regs.get d)/\a.heap=b.heap
theorem jz.refl (a:bn):jz a a:=⟨fun _=>rfl,rfl⟩
theorem jz.symm {a b:bn} (h:jz a b):jz b a:=⟨fun d=>(h.1 d).symm,h.2.symm⟩
theorem jz.trans {a b c:bn} (h:jz a b) (k:jz b c):jz a c:=⟨fun d=>(h.1 d).trans (k.1 d),h.2.trans k.2⟩
structure nM [Env] (cx:bS) (Γ:gi) (ops:Array Oper) (base L:Nat) (N:Nat->cI) (i:Nat) (st b9:bn):Prop where
 ex: ∃o n,ops[i]? =some o/\(oy cx Γ ops o st (base+slotsOf*i)).val=some (b9,n,N i)/\n<=base+slotsOf*i+slotsOf
 lt:p7 L (N i)
 len:st.heap.length=L
variable {base L:Nat} {N:Nat->cI}
theorem nM.left [Env] {i:Nat} {st b9:bn} (s:nM cx Γ ops base L N i st b9):Ii st.heap (N i) b9.heap:=by
 obtain ⟨o,n,aa,ad,al⟩:=s.ex;obtain ⟨b,r,aE,aZ,bu⟩:=x8 ad;obtain ⟨gO,-,l,-⟩:=DD _ st.heap st.heap _ _ _ _ _ aZ (by rw[s.len];exact s.lt) rfl (fun _ _=>rfl) (fun _ _=>rfl);exact l
theorem nM.congr [Env] {i:Nat} {st b9 aW:bn} (s:nM cx Γ ops base L N i st b9) (e:jz st aW): ∃rJ,nM cx Γ ops base L N i aW rJ/\jz b9 rJ:=by
 obtain ⟨o,n,aa,ad,al⟩:=s.ex;obtain ⟨b,r,aE,aZ,bu⟩:=x8 ad;obtain ⟨a7,aY⟩:=La (cx:=cx) (Γ:=Γ) (ops:=ops) (o:=o) (R:=st.regs) (R':=aW.regs) (fun d _=>e.1 d);obtain ⟨h0,g1,g2⟩:=KW (cx:=cx) (Γ:=Γ) (ops:=ops) (o:=o) (st:=aW) (nx:=base+slotsOf*i) (b:=b) (by rw[<-a7];exact aE) (by rw[<-aY,<-e.2];exact aZ);refine ⟨⟨h0,b9.heap⟩,⟨⟨o,n,aa,g1,al⟩,s.lt,by rw[<-e.2];exact s.len⟩,⟨fun d=> ?_,rfl⟩⟩;rw[bu,g2,tS,tS,e.1 d]
structure El (ops:Array Oper) (N:Nat->cI) (a b:Nat):Prop where
 regs: ∀ru ob,ops[a]? =some ru->ops[b]? =some ob->(∀d,ru.dst=some d->d∉pY ops ob/\ob.dst≠some d)/\ ∀d,ob.dst=some d->d∉pY ops ru
 ww: ∀o∈(N a).wr,o∉(N b).wr
 wr: ∀o∈(N a).wr,o∉(N b).rd
 wf: ∀o∈(N a).wr,o∉(N b).fz
 rw_: ∀o∈(N b).wr,o∉(N a).rd
 fw: ∀o∈(N b).wr,o∉(N a).fz
theorem swap [Env] {a b:Nat} {st b9 dC:bn} (rI:nM cx Γ ops base L N a st b9) (Bg:nM cx Γ ops base L N b b9 dC) (ap:El ops N a b):
  ∃rJ PE,nM cx Γ ops base L N b st rJ/\nM cx Γ ops base L N a rJ PE/\jz dC PE:=by
 have h8:=rI.left;obtain ⟨ru,atr,eo,a2,a3⟩:=rI.ex;obtain ⟨aqD,aeE,a4,a5,oP⟩:=x8 a2;obtain ⟨ob,ats,b1,b2,b3⟩:=Bg.ex;obtain ⟨et,aeF,gL,gX,jG⟩:=x8 b2;obtain ⟨au,aL⟩:=ap.regs ru ob eo b1;have hB:=La (cx:=cx) (Γ:=Γ) (ops:=ops) (o:=ob) (R:=b9.regs) (R':=st.regs) (fun d ax=>by
  rw[oP,tS,if_neg];intro h;exact (au d h).1 ax)
 obtain ⟨db,gG,gH,pO,Gh⟩:=DD _ b9.heap st.heap _ _ _ _ _ gX (by rw[Bg.len];exact Bg.lt) (by rw[rI.len,Bg.len]) (fun o an=>by
  rw[h8.other o (fun h=>ap.wr o h an),YC]) (fun o an=>by
  rw[h8.other o (fun h=>ap.ww o h an)];unfold lf;rw[if_neg (ap.fw o an)])
 obtain ⟨gO,bj,bU,da,c8⟩:=DD _ st.heap db _ _ _ _ _ a5 (by rw[rI.len];exact rI.lt) pO.len (fun o an=>by
  rw[pO.other o (fun h=>ap.rw_ o h an),YC]) (fun o an=>by
  rw[pO.other o (fun h=>ap.ww o an h)];unfold lf;rw[if_neg (ap.wf o an)])
 obtain ⟨h0,g1,g2⟩:=KW (cx:=cx) (Γ:=Γ) (ops:=ops) (o:=ob) (st:=st) (nx:=base+slotsOf*b) (b:=et) (by rw[<-hB.1];exact gL) (by rw[<-hB.2];exact gG);have EG:=La (cx:=cx) (Γ:=Γ) (ops:=ops) (o:=ru) (R:=st.regs) (R':=h0) (fun d ax=>by
  rw[g2,tS,if_neg];intro h;exact aL d h ax)
 obtain ⟨uq,g3,g4⟩:=KW (cx:=cx) (Γ:=Γ) (ops:=ops) (o:=ru) (st:=⟨h0,db⟩) (nx:=base+slotsOf*a) (b:=aqD) (by rw[<-EG.1];exact a4) (by rw[<-EG.2];exact bj);refine ⟨⟨h0,db⟩,⟨uq,gO⟩,⟨⟨ob,ats,b1,g1,b3⟩,Bg.lt,rI.len⟩,⟨⟨ru,atr,eo,g3,a3⟩,rI.lt,by rw[<-rI.len];exact pO.len⟩,⟨fun d=> ?_,?_⟩⟩
 ·rw[jG,g4];simp only[tS,oP,g2];by_cases aa:ob.dst=some d
  ·rw[if_pos aa,if_neg (fun h=>(au d h).2 aa),if_pos aa]
  ·rw[if_neg aa,if_neg aa]
 ·have hlen:dC.heap.length=gO.length:=by
   rw[da.len,pO.len,<-h8.len,<-gH.len]
  refine List.ext_getElem? fun o=> ?_
  have key:aF dC.heap o=aF gO o:=by
   by_cases vW:o∈(N a).wr
   ·rw[c8 o vW,gH.other o (ap.ww o vW)];unfold lf;rw[if_neg (ap.wf o vW)]
   ·by_cases FL:o∈(N b).wr
    ·rw[da.other o vW];unfold lf;rw[if_neg (ap.fw o FL),Gh o FL]
    ·rw[da.other o vW,pO.other o FL,gH.other o FL,h8.other o vW];unfold lf;split<;>split<;>rfl
  rcases Nat.lt_or_ge o dC.heap.length with h |h
  ·have cb:o<gO.length:=by omega
   simp only[aF,List.getD_eq_getElem?_getD,List.getElem?_eq_getElem h,List.getElem?_eq_getElem cb,Option.getD_some]at key;rw[List.getElem?_eq_getElem h,List.getElem?_eq_getElem cb,key]
  ·rw[List.getElem?_eq_none h,List.getElem?_eq_none (show gO.length<=o by omega)]
def mo [Env] (cx:bS) (Γ:gi) (ops:Array Oper) (base L:Nat) (N:Nat->cI):List Nat->bn->bn->Prop
 |[],st,aW=>jz st aW
 |i::l,st,aW=> ∃b9,nM cx Γ ops base L N i st b9/\mo cx Γ ops base L N l b9 aW
theorem mo.congr [Env]: ∀{l:List Nat} {st aW dC:bn},mo cx Γ ops base L N l st aW->jz st dC->mo cx Γ ops base L N l dC aW
 |[],st,aW,dC,h,e=>e.symm.trans h
 |i::l,st,aW,dC,⟨b9,aa,ad⟩,e=>by
  obtain ⟨rJ,al,aE⟩:=aa.congr e;exact ⟨rJ,al,ad.congr aE⟩
theorem mo.front [Env]: ∀{de cP:List Nat} {i:Nat} {st aW:bn},mo cx Γ ops base L N (de++i::cP) st aW->(∀j∈de,El ops N j i)->mo cx Γ ops base L N (i::(de++cP)) st aW
 |[],cP,i,st,aW,h,_=>h
 |j::de,cP,i,st,aW,⟨b9,aa,ad⟩,aR=>by
  obtain ⟨dC,al,aE⟩:=mo.front ad fun k av=>aR k (by simp[av])
  obtain ⟨auA,auB,aZ,bu,dq⟩:=swap aa al (aR j (by simp));exact ⟨auA,aZ,auB,bu,aE.congr dq⟩
end
open Go.RowKit
theorem rN {l m:List Nat} (h:m8 l m=true): ∀a∈l,a∉m:=by
 induction l with
 |nil=>simp
 |cons b l aO=>
  simp only[m8,bB,Bool.not_eq_true']at h;intro a aR hm;rcases List.mem_cons.1 aR with rfl |aR
  ·rw[yH.2 hm]at h;cases h.1
  ·exact aO h.2 a aR hm
theorem XK {qz:List Nat} {i:Nat} {n:lJ}: ∀(l:List lJ) (j:Nat),su.go qz i n j l=true-> ∀k m,l[k]? =some m->(qz.getD (j+k) 0).testBit i=true\/n.apart m=true
 |[],j,h,k,m,hm=>by simp at hm
 |x::l,j,h,k,m,hm=>by
  simp only[su.go,bB,Bool.or_eq_true]at h;cases k with
  |zero=>
   obtain rfl:x=m:=by simpa using hm
   exact h.1
  |succ k=>
   have:=XK l (j+1) h.2 k m (by simpa using hm)
   rwa [show j+1+k=j+(k+1) by omega]at this
theorem YI {qz:List Nat}: ∀(l:List lJ) (i:Nat),su qz i l=true-> ∀a b n m,a<b->l[a]? =some n->l[b]? =some m->(qz.getD (i+b) 0).testBit (i+a)=true\/n.apart m=true
 |[],i,h,a,b,n,m,_,aQ,_=>by simp at aQ
 |x::l,i,h,a,b,n,m,fg,aQ,hm=>by
  simp only[su,bB]at h;cases b with
  |zero=>omega
  |succ b=>
   cases a with
   |zero=>
    obtain rfl:x=n:=by simpa using aQ
    have:=XK l (i+1) h.1 b m (by simpa using hm)
    rwa [show i+1+b=i+(b+1) by omega]at this
   |succ a=>
    have:=YI l (i+1) h.2 a b n m (by omega) (by simpa using aQ) (by simpa using hm)
    rwa [show i+1+b=i+(b+1) by omega,show i+1+a=i+(a+1) by omega]at this
theorem Yw: ∀(l:List Oper) (i:Nat),uS i l=true-> ∀k o,l[k]? =some o-> ∀e∈o.after.toList,Region.binds .any e=true->e.on<i+k
 |[],i,h,k,o,an,e,he,ag=>by simp at an
 |x::l,i,h,k,o,an,e,he,ag=>by
  simp only[uS,bB,List.all_eq_true]at h;cases k with
  |zero=>
   obtain rfl:x=o:=by simpa using an
   have:=h.1 e he;simpa [ag] using this
  |succ k=>
   have:=Yw l (i+1) h.2 k o (by simpa using an) e he ag;omega
theorem ZD (f:Edge->Bool) (g:Edge->Nat) (j:Nat): ∀(l:List Edge) (m:Nat),(l.foldl (fun m e=>if f e then m ||| g e else m) m).testBit j=true->m.testBit j=true\/ ∃e∈l,f e=true/\(g e).testBit j=true
 |[],m,h=>.inl h
 |e::l,m,h=>by
  simp only[List.foldl_cons]at h;rcases ZD f g j l _ h with aa |⟨dx,aa,ad⟩
  ·cases aK:f e
   ·simp only[aK,Bool.false_eq_true,if_false]at aa;exact .inl aa
   ·simp only[aK,if_true,Nat.testBit_or,Bool.or_eq_true]at aa;rcases aa with aa |aa
    ·exact .inl aa
    ·exact .inr ⟨e,by simp,aK,aa⟩
  ·exact .inr ⟨dx,by simp[aa],ad⟩
theorem YM: ∀(l:List Oper) (acc:List Nat),(∀k,k<acc.length->(iY.go l acc)[k]? =acc[k]?)/\
  ∀k o,l[k]? =some o-> ∀j,((iY.go l acc).getD (acc.length+k) 0).testBit j=true-> ∃e∈o.after.toList,Region.binds .any e=true/\(j=e.on\/(e.on<acc.length+k/\((iY.go l acc).getD e.on 0).testBit j=true))
 |[],acc=>⟨fun k av=>by simp only[iY.go],fun k o an=>by simp at an⟩
 |o::l,acc=>by
  let x:=o.after.toList.foldl (fun m e=>bif Region.binds .any e then m ||| (1 <<< e.on) ||| acc.getD e.on 0 else m) 0
  obtain ⟨acG,as9⟩:=YM l (acc++[x]);have arT:iY.go (o::l) acc=iY.go l (acc++[x]):=by simp only[iY.go,x]
  rw[arT];have keep: ∀k,k<acc.length->(iY.go l (acc++[x]))[k]? =acc[k]? :=fun k av=>by
   rw[acG k (by simp;omega),List.getElem?_append_left av]
  refine ⟨keep,fun k dg an j ay=> ?_⟩;cases k with
  |zero=>
   obtain rfl:o=dg:=by simpa using an
   have aw:(iY.go l (acc++[x])).getD (acc.length+0) 0=x:=by
    rw[List.getD_eq_getElem?_getD,acG (acc.length+0) (by simp)];simp
   rw[aw]at ay;have jO:(o.after.toList.foldl (fun m e=>if Region.binds .any e then m ||| ((1 <<< e.on) ||| acc.getD e.on 0) else m) 0).testBit j=true:=by
    have:(fun (m:Nat) (e:Edge)=>bif Region.binds .any e then m ||| (1 <<< e.on) ||| acc.getD e.on 0 else m)=fun m e=>if Region.binds .any e then m ||| ((1 <<< e.on) ||| acc.getD e.on 0) else m:=by
     funext m e
     cases Region.binds .any e
     ·rfl
     ·simp[Nat.or_assoc]
    rw[<-this];exact ay
   rcases ZD (Region.binds .any) (fun e=>(1 <<< e.on) ||| acc.getD e.on 0) j o.after.toList 0 jO with h |⟨e,he,ag,abE⟩
   ·simp at h
   ·refine ⟨e,he,ag,?_⟩;simp only[Nat.testBit_or,Bool.or_eq_true]at abE;rcases abE with h |h
    ·left;simpa [Nat.one_shiftLeft,Nat.testBit_two_pow] using Eq.symm (by simpa [Nat.one_shiftLeft,Nat.testBit_two_pow] using h:e.on=j)
    ·right;have bb:e.on<acc.length:=by
      rcases Nat.lt_or_ge e.on acc.length with aa |aa
      ·exact aa
      ·simp[List.getD_eq_getElem?_getD,List.getElem?_eq_none aa]at h
     refine ⟨by omega,?_⟩;rw[List.getD_eq_getElem?_getD,keep e.on bb,<-List.getD_eq_getElem?_getD];exact h
  |succ k=>
   have av:(acc++[x]).length+k=acc.length+(k+1):=by simp;omega
   have:=as9 k dg (by simpa using an) j (by rw[av];exact ay)
   rwa [av]at this
theorem anB {l:List Oper} {k:Nat} {o:Oper} (an:l[k]? =some o) {j:Nat} (h:((iY l).getD k 0).testBit j=true): ∃e∈o.after.toList,Region.binds .any e=true/\(j=e.on\/(e.on<k/\((iY l).getD e.on 0).testBit j=true)):=by
 have:=(YM l []).2 k o an j (by simpa [iY] using h);simpa [iY] using this
section
variable {P:Program} {cx:bS} {Γ:gi} {ops:Array Oper} {base L:Nat}
def oX (ns:List lJ) (i:Nat):cI:=((ns[i]?).map (·.fp)).getD .none
theorem Xu [Env]: ∀(l:List Oper) (i:Nat) (st aW:bn) (ns oq:List lJ),(yJ cx Γ ops base L i l st ns).val=some (aW,oq)->ns.length=i->(∀k,l[k]? =ops[i+k]?)->st.heap.length=L->
  oq.length=i+l.length/\(∀k,k<i->oq[k]? =ns[k]?)/\(∀k o n,l[k]? =some o->oq[i+k]? =some n->n.dst=o.dst.toList/\n.uses=pY ops o)/\
   mo cx Γ ops base L (oX oq) (List.range' i l.length) st aW
 |[],i,st,aW,ns,oq,e,aQ,ao,lS=>by
  simp only[yJ,DT.val,bt,cw]at e;obtain ⟨rfl,rfl⟩:=e;exact ⟨by simp[aQ],fun _ _=>rfl,fun k o n h=>by simp at h,jz.refl _⟩
 |o::l,i,st,aW,ns,oq,e,aQ,ao,lS=>by
  simp only[yJ]at e;obtain ⟨⟨b9,n,fp⟩,ai,aq⟩:=DT.val_bind_some e;simp only at aq;cases ag:Nat.ble n (base+slotsOf*i+slotsOf)&&CO L fp
  ·simp[ag,DT.val]at aq
  ·simp only[ag,az]at aq;simp only[bB]at ag;have bb:=p7.of ag.2;have an:ops[i]? =some o:=by simpa using (ao 0).symm
   have hlen:b9.heap.length=L:=by
    obtain ⟨b,r,aE,aZ,bu⟩:=x8 ai;obtain ⟨gO,-,ath,-⟩:=DD _ st.heap st.heap _ _ _ _ _ aZ (by rw[lS];exact bb) rfl (fun _ _=>rfl) (fun _ _=>rfl);rw[ath.len,lS]
   obtain ⟨bj,bU,da,c8⟩:=Xu l (i+1) b9 aW _ oq aq (by simp[aQ]) (fun k=>by
    have:=ao (k+1);simpa [Nat.add_assoc,Nat.add_comm 1 k] using this) hlen
   have ab:oq[i]? =some ⟨o.dst.toList,pY ops o,fp⟩:=by
    rw[bU i (by omega),List.getElem?_append_right (by omega)];simp[aQ]
   have abO:oX oq i=fp:=by simp[oX,ab]
   refine ⟨by rw[bj];simp;omega,fun k av=>by rw[bU k (by omega),List.getElem?_append_left (by omega)],fun k dg aJ av vL=> ?_,⟨b9,⟨⟨o,n,an,by rw[abO];exact ai,by simpa using ag.1⟩,by rw[abO];exact bb,lS⟩,c8⟩⟩;cases k with
   |zero=>
    obtain rfl:o=dg:=by simpa using av
    rw[Nat.add_zero,ab]at vL;obtain rfl:=Option.some.inj vL;exact ⟨rfl,rfl⟩
   |succ k=>
    exact da k dg aJ (by simpa using av) (by rw[show i+1+k=i+(k+1) by omega];exact vL)
variable {nt:hV} {N:Nat->cI}
theorem cO.congr [Env] {φ:bw} {ι:Nat->Value} {w:World} {st aW:bn} {a:Act} (s:cO φ ι w nt st a) (e:jz st aW):cO φ ι w nt aW a:=
 ⟨by rw[<-e.2];exact s.heap,fun d r h=>by rw[<-e.2];exact s.regs d r (by rw[e.1 d];exact h),s.nt,s.small,by rw[<-e.2];exact s.defers⟩
theorem aov [Env] (tab:cA P cx) (cE:bL P Γ) {Q:Exit->Act->World->Prop} {rK:bn} (NQ:ops.toList.all (nT nt.n)=true) (arK:uS 0 ops.toList=true)
  (qU: ∀a b,a<b->b<ops.size->((iY ops.toList).getD b 0).testBit a=true\/El ops N a b) (lS:base+slotsOf*ops.size<=L)
  {Q0:bw} {xC:Nat->Value} {gy:World} {ud:List aG}
  (k: ∀bd w' φ' ι',cO φ' ι' w' nt rK bd->Step Q0 xC gy ud φ' ι' w' rK.heap->dA xC ud ι' rK.heap->Q .normal bd w'):
  ∀(fuel:Nat) (listed:Array Bool) (rest:List Nat) (st:bn) (φ:bw) (ι:Nat->Value) (w:World) (a:Act),rest.length<=fuel->rest.Pairwise (· < ·)->listed.size=ops.size->(∀i,i∈rest↔(i<ops.size/\listed.getD i true=false))->
   (∀i,i<ops.size->i∉rest-> ∀j,((iY ops.toList).getD i 0).testBit j=true->j∉rest)->(∀i∈rest,∀k,base+slotsOf*i<=k->k<base+slotsOf*i+slotsOf->(aF st.heap k).live=false)->st.heap.length=L->
   mo cx Γ ops base L N rest st rK->cO φ ι w nt st a->Step Q0 xC gy ud φ ι w st.heap->dA xC ud ι st.heap->wpAnyIn (ed nt.ro) 0 P .any ops Q fuel listed a w:=by
 intro fuel;have norm: ∀{listed:Array Bool} {rest:List Nat} {st:bn} {φ:bw} {ι:Nat->Value} {w:World} {a:Act},rest.Pairwise (· < ·)->(∀i,i∈rest↔(i<ops.size/\listed.getD i true=false))->listed.size=ops.size->mo cx Γ ops base L N rest st rK->cO φ ι w nt st a->Step Q0 xC gy ud φ ι w st.heap->dA xC ud ι st.heap->
   Region.ready .any ops listed=[]->Q .normal a w:=by
  intro listed rest st φ ι w a ar ds di w8 bV sp bG aA;cases rest with
  |nil=>
   have e:jz st rK:=w8;refine k a w φ ι (bV.congr e) ?_ ?_
   ·rw[<-e.2];exact sp
   ·rw[<-e.2];exact bG
  |cons i rest=>
   exfalso;have ab:=(ds i).1 (by simp);have:i∈Region.ready .any ops listed:=by
    unfold Region.ready;rw[List.mem_filter];refine ⟨by simp[ab.1],?_⟩;rw[ab.2];have FB:ops[i]? =some ops[i]:=Array.getElem?_eq_getElem ab.1;simp only[FB,Option.map_some,Option.getD_some,dm,Bool.true_and];rw[Array.all_eq_true'];intro e he;cases ag:Region.binds .any e
    ·rfl
    ·simp only[du,Bool.false_or];have bb:=Yw ops.toList 0 arK i ops[i] (by simp) e (by simpa using he) ag;have po:e.on∉i::rest:=by
      intro hm;rcases List.mem_cons.1 hm with h |h
      ·omega
      ·have:=(List.pairwise_cons.1 ar).1 e.on h;omega
     have oa:e.on<ops.size:=by omega
     have ad: ¬(listed.getD e.on true=false):=fun h=>po ((ds e.on).2 ⟨oa,h⟩)
     have al:e.on<listed.size:=by omega
     simp only[Array.getD_eq_getD_getElem?,Array.getElem?_eq_getElem al,Option.getD_some]at ad ⊢;simpa using ad
   rw[aA]at this;cases this
 induction fuel with
 |zero=>
  intro listed rest st φ ι w a hle ar di ds iy gE hlen w8 bV sp bG;have:rest=[]:=by
   cases rest with
   |nil=>rfl
   |cons a l=>simp at hle
  subst this;have aA:Region.ready .any ops listed=[]:=by
   unfold Region.ready;rw[List.filter_eq_nil_iff];intro i ab aB;simp only[bB,Bool.not_eq_true']at aB;have:=(ds i).2 ⟨by simpa using ab,aB.1⟩;cases this
  exact ⟨aA,norm ar ds di w8 bV sp bG aA⟩
 |succ fuel aO=>
  intro listed rest st φ ι w a hle ar di ds iy gE hlen w8 bV sp bG;refine ⟨norm ar ds di w8 bV sp bG,fun i ab=> ?_⟩;unfold Region.ready at ab;rw[List.mem_filter]at ab;obtain ⟨hL,e0⟩:=ab;have hL:i<ops.size:=by simpa using hL
  simp only[bB,Bool.not_eq_true']at e0;have ar4:=(ds i).2 ⟨hL,e0.1⟩;have FB:ops[i]? =some ops[i]:=Array.getElem?_eq_getElem hL;have abK: ∀e∈ops[i].after.toList,Region.binds .any e=true->e.on∉rest:=by
   intro e he ag hm;have ad:=e0.2;simp only[FB,Option.map_some,Option.getD_some]at ad;rw[Array.all_eq_true']at ad;have al:=ad e (by simpa using he);simp only[ag,du,Bool.false_or]at al;have aE:=((ds e.on).1 hm);have aZ:e.on<listed.size:=by omega
   have bu:=aE.2;simp only[Array.getD_eq_getD_getElem?,Array.getElem?_eq_getElem aZ,Option.getD_some]at al bu;rw[al]at bu;cases bu
  have abD: ∀j,((iY ops.toList).getD i 0).testBit j=true->j∉rest:=by
   intro j ay;obtain ⟨e,he,ag,h⟩:=anB (o:=ops[i]) (by simp) ay;rcases h with rfl |⟨aa,ad⟩
   ·exact abK e he ag
   ·exact iy e.on (by omega) (abK e he ag) j ad
  obtain ⟨de,cP,rfl⟩:=List.append_of_mem ar4;rw[List.pairwise_append]at ar;obtain ⟨s1,s2,hT⟩:=ar;rw[List.pairwise_cons]at s2;have au4:=mo.front w8 fun j ay=>(qU j i (hT j ay i (by simp)) hL).resolve_left fun h=>abD j h (List.mem_append.2 (.inl ay))
  obtain ⟨b9,fH,au5⟩:=au4;obtain ⟨o,aJ,an,he,vL⟩:=fH.ex;have ass:o=ops[i]:=by rw[FB]at an;exact (Option.some.inj an).symm
  have hmul:slotsOf*i+slotsOf<=slotsOf*ops.size:=by
   have:=Nat.mul_le_mul_left slotsOf hL
   rwa [Nat.mul_succ]at this
  have arI:nT nt.n o=true:=by
   rw[ass];exact List.all_eq_true.1 NQ _ (by simp)
  have dt:hG st.heap (base+slotsOf*i) aJ:=⟨by omega,fun k aa ad=>gE i (by simp) k aa (by omega)⟩;have q1:=J2 tab cE he bV dt arI (K:=wpAnyIn (ed nt.ro) 0 P .any ops Q fuel (listed.setIfInBounds i true)) (Q:=Q) fun bd w' φ' ι' cu auQ atb att=>by
   have cp: ∀j,j∈de++cP->j≠i:=by
    rintro j ay rfl;rcases List.mem_append.1 ay with h |h
    ·have:=hT j h j (by simp);omega
    ·have:=s2.1 j h;omega
   have oc: ∀j,j∈de++cP↔(j∈de++i::cP/\j≠i):=by
    intro j;constructor
    ·intro h;refine ⟨?_,cp j h⟩;rcases List.mem_append.1 h with h |h
     ·exact List.mem_append.2 (.inl h)
     ·exact List.mem_append.2 (.inr (by simp[h]))
    ·rintro ⟨h,nv⟩;rcases List.mem_append.1 h with h |h
     ·exact List.mem_append.2 (.inl h)
     ·exact List.mem_append.2 (.inr (by simpa [nv] using h))
   refine aO (listed.setIfInBounds i true) (de++cP) b9 φ' ι' w' bd (by simp at hle ⊢;omega) ?_ (by simp[di]) (fun j=> ?_) (fun j ay aso b ag=> ?_) (fun j ay cB aa ad=> ?_) (by rw[fH.left.len,hlen]) au5 cu (sp.trans auQ) (bG.trans atb)
   ·rw[List.pairwise_append];exact ⟨s1,s2.2,fun x aw y bf=>hT x aw y (by simp[bf])⟩
   ·rw[oc,ds];simp only[Array.getD_eq_getD_getElem?,Array.getElem?_setIfInBounds];by_cases nv:i=j
    ·subst nv;have:i<listed.size:=by omega
     simp[this]
    ·simp only[if_neg nv];constructor
     ·rintro ⟨h,-⟩;exact h
     ·intro h;exact ⟨h,fun cb=>nv cb.symm⟩
   ·intro hm;have Ah:=((oc b).1 hm).1;by_cases nv:j=i
    ·subst nv;exact abD b ag Ah
    ·exact iy j ay (fun h=>aso ((oc j).2 ⟨h,nv⟩)) b ag Ah
   ·have jO:=(oc j).1 ay;have nv:=jO.2;have:cB<base+slotsOf*i\/aJ<=cB:=by
     rcases Nat.lt_or_ge j i with h |h
     ·left;have:=Nat.mul_le_mul_left slotsOf h;rw[Nat.mul_succ]at this;omega
     ·right;have nu:i<j:=by omega
      have:=Nat.mul_le_mul_left slotsOf nu;rw[Nat.mul_succ]at this;omega
    rw[att.same cB this];exact gE j jO.1 cB aa ad
  unfold wpOpIn;rw[an];simp only;split
  ·rename_i h;rw[if_pos h]at q1;exact q1
  ·rename_i h;rw[if_neg h]at q1;exact ⟨fun _ _=>trivial,q1⟩
end
open Go.RowKit
theorem rR (t:aD) (x:t.den):t.cast? t x=some x:=by simp[aD.cast?]
theorem XT: ∀(lF:List aD) (l:List dM) (c:(chain lF).den),uR lF l=some c->(chain lF).parts c=l
 |[],[],c,h=>rfl
 |[],_::_,c,h=>by simp[uR]at h
 |_::_,[],c,h=>by simp[uR]at h
 |t::lF,d::l,c,h=>by
  simp only[uR]at h;split at h
  ·rename_i x y aw bf;obtain rfl:=Option.some.inj h;obtain ⟨e,acu⟩:=pP aw;obtain ⟨u,z⟩:=d;simp only at e;subst e;simp only at acu;have:=XT lF l y bf;simp only[chain,aD.parts,this,acu]
  ·cases h
mutual
theorem b5.dec_enc: ∀(s:b5) (r:ae) (l rest:List dM),s.dec r=some l->s.enc (l++rest)=some (r,rest)
 | .dat t,r,l,rest,h=>by
  cases r<;>simp only[b5.dec,reduceCtorEq]at h;rename_i u x;cases ag:decide (u=t)
  ·simp[ag]at h
  ·simp only[ag,az,bt]at h;have e:u=t:=by simpa using ag
   subst e h;simp[b5.enc,kV,rR]
 | .clip t,r,l,rest,h=>by
  cases r<;>simp only[b5.dec,reduceCtorEq]at h;rename_i u x;cases ag:decide (u=t)
  ·simp[ag]at h
  ·simp only[ag,az,bt]at h;have e:u=t:=by simpa using ag
   subst e h;simp[b5.enc,kV,rR]
 | .own t o,r,l,rest,h=>by
  cases r<;>simp only[b5.dec,reduceCtorEq]at h;rename_i u dg;cases ag:decide (u=t)&&Nat.beq o dg
  ·simp[ag]at h
  ·simp only[ag,az,bt]at h;simp only[bB,dd,Nat.beq_eq]at ag;obtain ⟨ai,aq⟩:=ag;subst ai aq h;simp[b5.enc]
 | .ptr o t i p,r,l,rest,h=>by
  cases r<;>simp only[b5.dec,reduceCtorEq]at h;rename_i dg hd pz p';cases ag:Nat.beq o dg&&decide (t=hd)&&Nat.beq i pz&&decide (p=p')
  ·simp[ag]at h
  ·simp only[ag,az,bt]at h;simp only[bB,dd,Nat.beq_eq]at ag;obtain ⟨⟨⟨ai,aq⟩,bc⟩,bz⟩:=ag;subst ai aq bc bz h;simp[b5.enc]
 | .agg s,r,l,rest,h=>by
  cases r<;>simp only[b5.dec,reduceCtorEq]at h;rename_i m;simp[b5.enc,b5.decL_enc s m l rest h]
 | .fn f a b,r,l,rest,h=>by
  cases r<;>simp only[b5.dec,reduceCtorEq]at h;rename_i g x y;cases ag:Nat.beq f g
  ·simp[ag]at h
  ·simp only[ag,az]at h;have e:f=g:=by simpa using ag
   subst e;split at h
   ·rename_i de aa;obtain ⟨m,hm,rfl⟩:=Option.map_eq_some_iff.1 h;have a1:=b5.decL_enc a x de (m++rest) aa;have k2:=b5.decL_enc b y m rest hm;simp only[b5.enc,List.append_assoc,a1,k2,Option.map_some]
   ·cases h
 | .iface T s,r,l,rest,h=>by
  cases r<;>simp only[b5.dec,reduceCtorEq]at h;rename_i U x;cases ag:Nat.beq T U
  ·simp[ag]at h
  ·simp only[ag,az]at h;have e:T=U:=by simpa using ag
   subst e;simp[b5.enc,b5.dec_enc s x l rest h]
 | .nils e t,r,l,rest,h=>by
  cases r<;>simp only[b5.dec,reduceCtorEq]at h;rename_i dx hd;cases ag:Nat.beq e dx&&decide (t=hd)
  ·simp[ag]at h
  ·simp only[ag,az,bt]at h;simp only[bB,dd,Nat.beq_eq]at ag;obtain ⟨ai,aq⟩:=ag;subst ai aq h;simp[b5.enc]
 | .nilI,r,l,rest,h=>by
  cases r<;>simp only[b5.dec,reduceCtorEq]at h;obtain rfl:=Option.some.inj h;rfl
 | .dfr f a b t,r,l,rest,h=>by
  cases r<;>simp only[b5.dec,reduceCtorEq]at h;rename_i g x y u xs;cases ag:Nat.beq f g&&decide (u=t)
  ·simp[ag]at h
  ·simp only[ag,az]at h;simp only[bB,dd,Nat.beq_eq]at ag;obtain ⟨ai,aq⟩:=ag;subst ai aq;split at h
   ·rename_i de aa;split at h
    ·rename_i cP ad;obtain rfl:=Option.some.inj h;have bj:=b5.decL_enc a x de (cP++(⟨.list u,xs⟩::rest)) aa;have bU:=b5.decL_enc b y cP (⟨.list u,xs⟩::rest) ad;have b6:de++(cP++[⟨.list u,xs⟩])++rest=de++(cP++(⟨.list u,xs⟩::rest)):=by simp
     rw[b6];simp[b5.enc,bj,bU,kV,aD.cast?]
    ·cases h
   ·cases h
 | .yld Y o,r,l,rest,h=>by
  cases r<;>simp only[b5.dec,reduceCtorEq]at h;rename_i qf dg;cases ag:Nat.beq Y qf&&Nat.beq o dg
  ·simp[ag]at h
  ·simp only[ag,az,bt]at h;simp only[bB,Nat.beq_eq]at ag;obtain ⟨ai,aq⟩:=ag;subst ai aq h;simp[b5.enc]
 | .nilF,r,l,rest,h=>by
  cases r<;>simp only[b5.dec,reduceCtorEq]at h;obtain rfl:=Option.some.inj h;rfl
 | .nilP,r,l,rest,h=>by
  cases r<;>simp only[b5.dec,reduceCtorEq]at h;obtain rfl:=Option.some.inj h;rfl
 | .undef,r,l,rest,h=>by
  cases r<;>simp only[b5.dec,reduceCtorEq]at h;obtain rfl:=Option.some.inj h;rfl
theorem b5.decL_enc: ∀(s:List b5) (r:List ae) (l rest:List dM),b5.decL s r=some l->b5.encL s (l++rest)=some (r,rest)
 |[],[],l,rest,h=>by
  simp only[b5.decL,bt]at h;subst h;rfl
 |[],_::_,l,rest,h=>by simp[b5.decL]at h
 |_::_,[],l,rest,h=>by simp[b5.decL]at h
 |s::kU,r::rs,l,rest,h=>by
  simp only[b5.decL]at h;split at h
  ·rename_i a aR;obtain ⟨b,ag,rfl⟩:=Option.map_eq_some_iff.1 h;have a1:=b5.dec_enc s r a (b++rest) aR;have k2:=b5.decL_enc kU rs b rest ag;simp only[b5.encL,List.append_assoc,a1,k2,Option.map_some]
  ·cases h
end
theorem pL: ∀(s:List (Nat×b5)) (R:bD) (l rest:List dM),hD s R=some l->oE s (l++rest)=some (R,rest)
 |[],[],l,rest,h=>by
  simp only[hD,bt]at h;subst h;rfl
 |[],_::_,l,rest,h=>by simp[hD]at h
 |_::_,[],l,rest,h=>by simp[hD]at h
 |(d,s)::kU,(e,r)::rs,l,rest,h=>by
  simp only[hD]at h;cases ag:Nat.beq d e
  ·simp[ag]at h
  ·simp only[ag,az]at h;have e:d=e:=by simpa using ag
   subst e;split at h
   ·rename_i a aR;obtain ⟨b,ag,rfl⟩:=Option.map_eq_some_iff.1 h;have a1:=b5.dec_enc s r a (b++rest) aR;have k2:=pL kU rs b rest ag;simp only[oE,List.append_assoc,a1,k2,Option.map_some]
   ·cases h
theorem dn.dec_enc (s:dn) (b:aG) (l rest:List dM) (h:s.dec b=some l):s.enc (l++rest)=some (b,rest):=by
 cases s with
 |arr e t fz=>
  cases b<;>simp only[dn.dec,reduceCtorEq]at h;rename_i dx u xs ji;cases ag:Nat.beq e dx&&decide (u=t)&&decide (fz=ji)
  ·simp[ag]at h
  ·simp only[ag,az,bt]at h;simp only[bB,dd,Nat.beq_eq]at ag;obtain ⟨⟨ai,aq⟩,bc⟩:=ag;subst ai aq bc h;simp[dn.enc,kV,rR]
 |box T t r=>
  cases b<;>simp only[dn.dec,reduceCtorEq]at h;rename_i Cz hd s;cases ag:Nat.beq T Cz&&decide (t=hd)
  ·simp[ag]at h
  ·simp only[ag,az]at h;simp only[bB,dd,Nat.beq_eq]at ag;obtain ⟨ai,aq⟩:=ag;subst ai aq;simp[dn.enc,b5.dec_enc r s l rest h]
 |iter=>
  cases b<;>simp only[dn.dec,reduceCtorEq,bt]at h;subst h;simp[dn.enc,kV,rR]
 |gone=>
  cases b<;>simp only[dn.dec,reduceCtorEq,bt]at h;subst h;simp[dn.enc]
 |loop Y R=>
  cases b<;>simp only[dn.dec,reduceCtorEq]at h;rename_i qf R' p;cases ag:Nat.beq Y qf
  ·simp[ag]at h
  ·simp only[ag,az]at h;have e:Y=qf:=by simpa using ag
   subst e;obtain ⟨m,hm,rfl⟩:=Option.map_eq_some_iff.1 h;have a1:=pL R R' m ([⟨.int .i64,p⟩]++rest) hm;rw[List.append_assoc];simp only[dn.enc,a1];simp only[kV,List.cons_append,List.nil_append,rR,Option.map_some]
theorem Yu: ∀(s:List dn) (R:List aG) (l rest:List dM),eX s R=some l->u2 s (l++rest)=some (R,rest)
 |[],[],l,rest,h=>by
  simp only[eX,bt]at h;subst h;rfl
 |[],_::_,l,rest,h=>by simp[eX]at h
 |_::_,[],l,rest,h=>by simp[eX]at h
 |s::kU,r::rs,l,rest,h=>by
  simp only[eX]at h;split at h
  ·rename_i a aR;obtain ⟨b,ag,rfl⟩:=Option.map_eq_some_iff.1 h;have a1:=dn.dec_enc s r a (b++rest) aR;have k2:=Yu kU rs b rest ag;simp only[u2,List.append_assoc,a1,k2,Option.map_some]
  ·cases h
theorem Shape.dec_enc {S:Shape} {st:bn} {s:S.ty.den} (h:S.dec st=some s):S.enc s=st:=by
 unfold Shape.dec at h;cases aR:hD S.regs st.regs with
 |none=>simp[aR]at h
 |some a=>
  cases ag:eX S.objs st.heap with
  |none=>simp[aR,ag]at h
  |some b=>
   simp only[aR,ag]at h;have aP:S.ty.parts s=a++b:=XT _ _ s h;unfold Shape.enc;rw[aP,pL _ _ a b aR];have:=Yu _ _ b [] ag;rw[List.append_nil]at this;simp only[this]
open Go.RowKit
structure fO [Env] (φ:bw) (ι:Nat->Value) (w:World) (H:List aG) (n:Nat) (φ':bw) (ι':Nat->Value) (aC:List aG) (aJ:Nat):Prop where
 rel:bR φ' ι' w aC
 step:Step φ ι w H φ' ι' w aC
 keep:dA ι H ι' aC
 top:aJ=aC.length
section
variable {φ:bw} {ι:Nat->Value} {w:World} {H:List aG} {n:Nat} {aC:List aG} {aJ:Nat}
theorem fO.refl [Env] (h:bR φ ι w H) (aQ:n=H.length):fO φ ι w H n φ ι H n:=⟨h,Step.refl _ _ _ _,dA.refl _ _,aQ⟩
theorem fO.trans [Env] {cT:bw} {er:Nat->Value} {H1:List aG} {cC:Nat} {dv:bw} {dz:Nat->Value} {eg:List aG} {dk:Nat} (a:fO φ ι w H n cT er H1 cC) (b:fO cT er w H1 cC dv dz eg dk):fO φ ι w H n dv dz eg dk:=
 ⟨b.rel,a.step.trans b.step,a.keep.trans b.keep,b.top⟩
theorem fO.ghost [Env] {φ':bw} (g:ef φ ι w H φ' aC) (aQ:n=H.length):fO φ ι w H n φ' ι aC n:=⟨g.rel,g.step,g.keep,by rw[g.len,aQ]⟩
theorem fO.of_yld [Env] {r:ae} {v:Value} (y:ch φ ι w H n r aC aJ (.ok v w)) (aQ:n=H.length): ∃φ' ι',fO φ ι w H n φ' ι' aC aJ/\r.rel φ' ι' w v/\ ∀i∈r.ids,(aF aC i).live=true:=by
 obtain ⟨j0,w',φ',ι',e,aa,ad,al,aE,aZ,bu⟩:=y;injection e with ai aq
 subst ai aq;exact ⟨φ',ι',⟨aa,ad,al,(aE.seq aQ).symm⟩,aZ,bu⟩
theorem aoY [Env] (h:bR φ ι w H) {t u:aD} {o ab:Nat} {e:TypeId} {xs:List u.den} {v:Value} (aA:(ae.view t o 0 ab).rel φ ι w v) (an:aF H o=.arr e u xs false) (aQ:n=H.length):
  ∃φ' ι',fO φ ι w H n φ' ι' (bM (bM H o .gone) n (.arr e u (xs.take ab) false)) (n+1)/\(ae.own u n).rel φ' ι' w v/\ ∀i∈(ae.own u n).ids,(aF (bM (bM H o .gone) n (.arr e u (xs.take ab) false)) i).live=true:=by
 obtain ⟨A,m,c,A',ai,bY,aa,ad,rfl,al,aE⟩:=aA;have cR:=h.obj o;rw[an]at cR;obtain ⟨hU,cr,aY,f1,f2,f3,f4,f5⟩:=cR;rw[ai]at f1;obtain ⟨rfl,rfl,rfl⟩:=hj f1;have mK:(aF H o).owns=true:=by rw[an];rfl
 have gE:(aF H n).live=false:=by rw[aQ,nC (Nat.le_refl _)];rfl
 have zO:c≠0->A'=A:=by
  intro aB;obtain ⟨b,bk,ag⟩:=aE aB;rw[al aB,ag];simp[ga]
 obtain ⟨a1,k2,b8,dD⟩:=uI (φ':=φ) (w':=w) h mK (by omega) gE (v:=.slice A' (ab-0) (c-0)) (ob:=.arr e u (xs.take ab) false) rfl rfl rfl rfl rfl (Nat.le_refl _) (fun _ _ _=>rfl) (fun _ _ h=>h) (fun _ _ _=>rfl) (fun _ _ h=>.inl h)
  (fun b ag=>by
   right;rw[ai];by_cases aB:c=0
   ·subst aB;cases A'<;>simp[c6]at ag
   ·rw[zO aB]at ag;cases A<;>simp[c6,aB]at ag ⊢;exact ag)
  (by
   refine ⟨A',ab-0,c-0,by simp[ip],by simp;omega,by omega,by omega,?_⟩;rcases f5 with f5 |⟨b,pre,cur,fr,g1,g2,g3,g4,g0,g5,g6,g7,g8⟩
   ·left;omega
   ·by_cases aB:c=0
    ·left;omega
    ·right;refine ⟨b,pre,cur,fr,(zO aB).trans g1,g2,by simpa using g3,g4,g0,⟨g5.one,g5.at_ g6 _⟩,?_,fun k av=>(by have:=(g7 k av).1;cases this),fun h=>(by cases h)⟩;have:=g6.take (fun x c=>bh.len u x c) ab;rw[List.take_take]at this;rw[Nat.sub_zero]
     rwa [Nat.min_eq_left (Nat.mul_le_mul_right _ aa)]at this)
 refine ⟨φ,_,⟨a1,k2,b8,(dD.seq aQ).symm⟩,sn ⟨by simp[ip],_,_,_,rfl⟩,?_⟩;intro i ab;have:i=n:=by simpa [ae.ids] using ab
 subst this;have ao:(bM H o .gone).length=H.length:=gM H o _ (fo (by rw[an];rfl));rw[fm _ i _ i (by omega),if_pos rfl];rfl
theorem aoX [Env] (h:bR φ ι w H) {u:aD} {o lo ab:Nat} {e:TypeId} {xs:List u.den} {v:Value} (aA:(ae.view u o lo ab).rel φ ι w v) (an:aF H o=.arr e u xs false) (aQ:n=H.length):
  ∃φ' ι',fO φ ι w H n φ' ι' (bM (bM H o .gone) n (.arr e u ((xs.take ab).drop lo) false)) (n+1)/\(ae.own u n).rel φ' ι' w v/\ ∀i∈(ae.own u n).ids,(aF (bM (bM H o .gone) n (.arr e u ((xs.take ab).drop lo) false)) i).live=true:=by
 obtain ⟨A,m,c,A',ai,bY,aa,ad,rfl,al,aE⟩:=aA;have cR:=h.obj o;rw[an]at cR;obtain ⟨hU,cr,aY,f1,f2,f3,f4,f5⟩:=cR;rw[ai]at f1;obtain ⟨rfl,rfl,rfl⟩:=hj f1;have mK:(aF H o).owns=true:=by rw[an];rfl
 have gE:(aF H n).live=false:=by rw[aQ,nC (Nat.le_refl _)];rfl
 have zO:c≠lo-> ∃b bk,A=some ⟨b,bk,none⟩/\A'=some ⟨b,bk+lo*u.size,none⟩:=by
  intro aB;obtain ⟨b,bk,ag⟩:=aE (by omega);refine ⟨b,bk,ag,?_⟩;rw[al aB,ag];simp[ga]
 obtain ⟨a1,k2,b8,dD⟩:=uI (φ':=φ) (w':=w) h mK (by omega) gE (v:=.slice A' (ab-lo) (c-lo)) (ob:=.arr e u ((xs.take ab).drop lo) false) rfl rfl rfl rfl rfl (Nat.le_refl _) (fun _ _ _=>rfl) (fun _ _ h=>h) (fun _ _ _=>rfl) (fun _ _ h=>.inl h)
  (fun b ag=>by
   right;rw[ai];by_cases aB:c=lo
   ·rw[aB,Nat.sub_self]at ag;cases A'<;>simp[c6]at ag
   ·obtain ⟨bK,bk,rfl,rfl⟩:=zO aB;have bb:lo<c:=Nat.lt_of_le_of_ne (Nat.le_trans bY (Nat.le_trans aa ad)) (Ne.symm aB);have mE:c-lo≠0:=Nat.sub_ne_zero_of_lt bb;have kb:c≠0:=Nat.pos_iff_ne_zero.1 (Nat.lt_of_le_of_lt (Nat.zero_le lo) bb);simp only[c6,if_neg mE,if_neg kb]at ag ⊢;exact ag)
  (by
   refine ⟨A',ab-lo,c-lo,by simp[ip],by simp;omega,by omega,by omega,?_⟩;by_cases aB:c=lo
   ·left;omega
   ·rcases f5 with f5 |⟨b,pre,cur,fr,g1,g2,g3,g4,g0,g5,g6,g7,g8⟩
    ·left;omega
    ·right;obtain ⟨bK,bk,bj,bU⟩:=zO aB;rw[g1]at bj;injection bj with bj
     injection bj with bj Pm
     subst bj Pm;have ab2:lo*u.size<=cur.toList.length:=by
      rw[Array.length_toList,g3];exact Nat.mul_le_mul_right _ (by omega)
     have asK:(pre.toList++cur.toList.take (lo*u.size)).toArray++(cur.toList.drop (lo*u.size)).toArray=pre++cur:=by
      apply Array.ext';simp
     have acf:((pre.toList++cur.toList.take (lo*u.size)).toArray).size=pre.size+lo*u.size:=by
      simp only[List.size_toArray,List.length_append,List.length_take,Array.length_toList]at ab2 ⊢;omega
     have lU:((cur.toList.drop (lo*u.size)).toArray).size=cur.size-lo*u.size:=by simp
     rw[Array.length_toList]at ab2;have hmul:(ab-lo)*u.size=ab*u.size-lo*u.size:=Nat.sub_mul _ _ _;have aww:lo*u.size<=ab*u.size:=Nat.mul_le_mul_right _ bY;refine ⟨b,(pre.toList++cur.toList.take (lo*u.size)).toArray,(cur.toList.drop (lo*u.size)).toArray,fr,by rw[bU,acf],by rw[asK];exact g2,by rw[lU,g3,<-Nat.sub_mul],by rw[acf,lU,show pre.size+lo*u.size+(cur.size-lo*u.size)=pre.size+cur.size by omega];exact g4,?_,⟨?_,?_⟩,?_,fun k av=>(by have:=(g7 k av).1;cases this),fun h=>(by cases h)⟩
     ·intro x aw;rcases List.mem_append.1 aw with aw |aw
      ·exact g0 x aw
      ·exact g5.one x (List.mem_of_mem_take aw)
     ·intro x aw;exact g5.one x (List.mem_of_mem_drop aw)
     ·have:=g5.at_ g6 ab;refine this.imp id fun ⟨zs,bA⟩=>⟨zs,?_⟩
      show cz _ _ ((cur.toList.drop (lo*u.size)).drop ((ab-lo)*u.size));rw[List.drop_drop,show lo*u.size+(ab-lo)*u.size=ab*u.size by omega];exact bA
     ·have:=(g6.take (fun x c=>bh.len u x c) ab).drop (fun x c=>bh.len u x c) lo;have o9:(cur.toList.take (ab*u.size)).drop (lo*u.size)=(cur.toList.drop (lo*u.size)).take ((ab-lo)*u.size):=by rw[List.drop_take,hmul]
      rw[List.take_take,Nat.min_eq_left (Nat.mul_le_mul_right _ aa),o9]at this;exact this)
 refine ⟨φ,_,⟨a1,k2,b8,(dD.seq aQ).symm⟩,sn ⟨by simp[ip],_,_,_,rfl⟩,?_⟩;intro i ab;have:i=n:=by simpa [ae.ids] using ab
 subst this;have ao:(bM H o .gone).length=H.length:=gM H o _ (fo (by rw[an];rfl));rw[fm _ i _ i (by omega),if_pos rfl];rfl
mutual
theorem J3 [Env]: ∀(s:b5) (r fD:ae) (v:Value) (φ:bw) (ι:Nat->Value) (H:List aG) (n:Nat) (aC:List aG) (aJ:Nat),(yQ s r).go H n=some (fD,aC,aJ)->n=H.length->bR φ ι w H->r.rel φ ι w v->(∀i∈r.ids,(aF H i).live=true)->
  ∃φ' ι',fO φ ι w H n φ' ι' aC aJ/\fD.rel φ' ι' w v/\ ∀i∈fD.ids,(aF aC i).live=true:=by
 intro s r fD v φ ι H n aC aJ e aQ h aA ao;unfold yQ at e;split at e
 ·rename_i t r;obtain ⟨x,H1,cC,ai,aq⟩:=HM.go_bind_some e;obtain ⟨rfl,rfl,rfl⟩:=go_ret aq;have q:=De ai h aA ao;clear ai e aq;obtain ⟨aa,cT,g,aX⟩:=q;subst aa;exact ⟨cT,ι,fO.ghost g aQ,gC aX,by simp[ae.ids]⟩
 ·rename_i a b b6 t;simp only[HM.go]at e;obtain ⟨rfl,rfl,rfl⟩:=go_ret e;have aA:v=.slice none 0 0:=aA;subst aA;exact fO.of_yld (R1 h (by omega) (by rw[aQ,nC (Nat.le_refl _)];rfl)) aQ
 ·rename_i a b t o ab;simp only[HM.go]at e;split at e
  ·rename_i b6 u xs an;simp only[HM.go]at e;obtain ⟨rfl,rfl,rfl⟩:=go_ret e;exact aoY h aA an aQ
  ·simp[HM.go]at e
 ·rename_i a b t o lo ab _;simp only[HM.go]at e;split at e
  ·rename_i b6 u xs an;have q:=go_bif e;clear e;obtain ⟨hu,e⟩:=q;have hu:u=t:=by simpa using hu
   subst hu;simp only[HM.go]at e;obtain ⟨rfl,rfl,rfl⟩:=go_ret e;exact aoX h aA an aQ
  ·simp[HM.go]at e
 ·rename_i l m;obtain ⟨pI,H1,cC,ai,aq⟩:=HM.go_bind_some e;obtain ⟨rfl,rfl,rfl⟩:=go_ret aq;obtain ⟨cs,rfl,aA⟩:=aA;obtain ⟨cT,er,t,a1,k2⟩:=VT l m pI cs.toList φ ι H n _ _ ai aQ h aA (fun i ab=>ao i (by simpa [ae.ids] using ab));exact ⟨cT,er,t,Ed ⟨cs,rfl,a1⟩,fun i ab=>k2 i (by simpa [ae.ids] using ab)⟩
 ·obtain ⟨rfl,rfl,rfl⟩:=go_ret e;exact ⟨φ,ι,fO.refl h aQ,aA,ao⟩
theorem VT [Env]: ∀(s:List b5) (l eJ:List ae) (cs:List Value) (φ:bw) (ι:Nat->Value) (H:List aG) (n:Nat) (aC:List aG) (aJ:Nat),(D1 s l).go H n=some (eJ,aC,aJ)->n=H.length->bR φ ι w H->ae.relL φ ι w l cs->(∀i∈ae.idsL l,(aF H i).live=true)->
  ∃φ' ι',fO φ ι w H n φ' ι' aC aJ/\ae.relL φ' ι' w eJ cs/\ ∀i∈ae.idsL eJ,(aF aC i).live=true:=by
 intro s l eJ cs φ ι H n aC aJ e aQ h aA ao;unfold D1 at e;split at e
 ·rename_i s kU r rs;obtain ⟨au,H1,cC,ai,aq⟩:=HM.go_bind_some e;obtain ⟨de,eg,dk,bc,bz⟩:=HM.go_bind_some aq;obtain ⟨rfl,rfl,rfl⟩:=go_ret bz;obtain ⟨v,aY,rfl,aa,ad⟩:=aA;obtain ⟨cT,er,t1,a1,k2⟩:=J3 s r au v φ ι H n H1 cC ai aQ h aa (fun i ab=>ao i (by simp[ae.idsL,ab]));obtain ⟨dv,dz,t2,b8,dD⟩:=VT kU rs de aY cT er H1 cC _ _ bc t1.top t1.rel (ae.relL_mono t1.step.phi t1.step.cells rs aY (fun i ab=>t1.keep.iota i (ao i (by simp[ae.idsL,ab]))) ad) (fun i ab=>t1.keep.live i (ao i (by simp[ae.idsL,ab])));refine ⟨dv,dz,t1.trans t2,⟨v,aY,rfl,ae.rel_step t2.step t2.keep k2 a1,b8⟩,fun i ab=> ?_⟩;simp only[ae.idsL,List.mem_append]at ab;rcases ab with ab |ab
  ·exact t2.keep.live i (k2 i ab)
  ·exact dD i ab
 ·obtain ⟨rfl,rfl,rfl⟩:=go_ret e;exact ⟨φ,ι,fO.refl h aQ,aA,ao⟩
end
end
open Go.RowKit
def k5 (φ:bw) (ι:Nat->Value) (w:World) (H:List aG) (R:bD) (tm:Nat->Value):Prop:= ∀d r,R.get d=some r->r.rel φ ι w (tm d)/\ ∀i∈r.ids,(aF H i).live=true
def gK (m:Nat) (ι:Nat->Value) (H:List aG) (ι':Nat->Value) (aC:List aG):Prop:= ∀o,o<m->(aF H o).live=true->ι' o=ι o/\(aF aC o).live=true
def fC (m:Nat) (H:List aG):Prop:= ∀o,o<m->(aF H o).live=true
theorem dA.keepM {ι ι':Nat->Value} {H aC:List aG} (k:dA ι H ι' aC) (m:Nat):gK m ι H ι' aC:=fun o _ h=>⟨k.iota o h,k.live o h⟩
theorem gK.refl (m:Nat) (ι:Nat->Value) (H:List aG):gK m ι H ι H:=fun _ _ h=>⟨rfl,h⟩
theorem gK.trans {m:Nat} {ι ι' gh:Nat->Value} {H aC k1:List aG} (h:gK m ι H ι' aC) (k:gK m ι' aC gh k1):gK m ι H gh k1:=
 fun o an ao=>let ⟨aa,ad⟩:=h o an ao;let ⟨a1,k2⟩:=k o an ad;⟨a1.trans aa,k2⟩
theorem gK.live {m:Nat} {ι ι':Nat->Value} {H aC:List aG} (k:gK m ι H ι' aC) (l:fC m H):fC m aC:=fun o an=>(k o an (l o an)).2
section
variable {φ:bw} {ι:Nat->Value} {w:World} {H:List aG} {n:Nat} {aC:List aG} {aJ:Nat} {tm:Nat->Value}
theorem k5.step {φ':bw} {ι':Nat->Value} {w':World} {R:bD} (s:Step φ ι w H φ' ι' w' aC) (k:dA ι H ι' aC) (h:k5 φ ι w H R tm):k5 φ' ι' w' aC R tm:=
 fun d r aA=>⟨ae.rel_step s k (h d r aA).2 (h d r aA).1,fun i ab=>k.live i ((h d r aA).2 i ab)⟩
theorem aju [Env]: ∀(os:List Nat) (kU:List dn) (u:Unit) (φ:bw) (ι:Nat->Value) (H:List aG) (n:Nat) (aC:List aG) (aJ:Nat),(pK os kU).go H n=some (u,aC,aJ)->n=H.length->bR φ ι w H->
  ∃φ' ι',fO φ ι w H n φ' ι' aC aJ:=by
 intro os kU u φ ι H n aC aJ e aQ h
 induction os generalizing kU φ ι H n with
 |nil=>
  unfold pK at e;obtain ⟨-,rfl,rfl⟩:=go_ret e;exact ⟨φ,ι,fO.refl h aQ⟩
 |cons o l aO=>
  unfold pK at e;split at e
  ·rename_i dg eJ avU t0 s m heq;injection heq with bj bU
   subst bj bU;simp only[HM.go]at e;split at e
   ·rename_i j3 t1 r ag;obtain ⟨fD,H1,cC,ai,aq⟩:=HM.go_bind_some e;have cR:=h.obj o;rw[ag]at cR;obtain ⟨b,cur,fr,v,g1,g2,g3,g4,g5,g6,g7,g8,g9⟩:=cR;have eI:(aF H o).live=true:=by rw[ag];rfl
    obtain ⟨cT,er,t,a1,k2⟩:=J3 s r fD v φ ι H n H1 cC ai aQ h g6 (fun i ab=>h.idsB o j3 t1 r ag i ab);clear e ai;simp only[HM.go]at aq;split at aq
    ·rename_i T t2 aL dB;have q:=go_bif aq;clear aq;obtain ⟨aK,bc⟩:=q;simp only[HM.go]at bc;have Ak:=t.rel.obj o;rw[dB]at Ak;obtain ⟨bK,aqL,abh,j0,f1,f2,f3,f4,f5,f6,f7,f8,f9⟩:=Ak;have Ag:o<H1.length:=fo (by rw[dB];rfl);have hM:er o=ι o:=t.keep.iota o eI;rw[hM,g1]at f1;have n2:b=bK:=by simpa using f1
     subst n2;have sY:cur=aqL/\fr=abh:=by
      rw[g2]at f2;have f2:=Option.some.inj f2;injection f2 with bj bU da
      exact ⟨bj,da⟩
     obtain ⟨rfl,rfl⟩:=sY;have bo: ∀i,aF (bM H1 o (.box T t2 fD)) i=if i=o then .box T t2 fD else aF H1 i:=fun i=>fm H1 o _ i (Nat.le_of_lt Ag)
     have lr: ∀i,(aF (bM H1 o (.box T t2 fD)) i).owns=(aF H1 i).owns:=fun i=>by
      rw[bo];split
      ·rename_i e;subst e;rw[dB];rfl
      ·rfl
     have ej: ∀i,(aF (bM H1 o (.box T t2 fD)) i).live=(aF H1 i).live:=fun i=>by
      rw[bo];split
      ·rename_i e;subst e;rw[dB];rfl
      ·rfl
     have dy:bR cT er w (bM H1 o (.box T t2 fD)):=by
      refine t.rel.update (fun i=>i=o) (fun i ab=>by rw[bo,if_neg ab]) (fun _ _=>rfl) (fun i ab=>by rw[ej];exact ab) (fun i ab=> ?_) (fun i ab j ay=> ?_) (fun _ _ _ _ _=>rfl) (fun _ _ _=>rfl) (fun i j bK _ aa ad al aE=> ?_)
      ·subst ab;rw[bo,if_pos rfl];exact ⟨b,cur,fr,v,hM.trans g1,f2,f3,f4,f5,a1,g7,aK,f9⟩
      ·subst ab;rw[bo,if_pos rfl]at ay;rw[ej];exact k2 j ay
      ·rw[lr]at aa ad;exact t.rel.apart i j bK aa ad al aE
     have t2:fO cT er w H1 cC cT er (bM H1 o (.box T t2 fD)) cC:=
      ⟨dy,⟨fun _ _ h=>h,fun _ _ _=>rfl,fun _ _ h=>.inl h,Nat.le_refl _,rfl,rfl,rfl,fun _ _ _=>rfl,fun b ⟨i,aa,ad⟩=>.inr ⟨i,by rw[<-lr];exact aa,ad⟩⟩,⟨fun _ _=>rfl,fun i ab=>by rw[ej];exact ab⟩,by rw[gM H1 o _ Ag];exact t.top⟩
     obtain ⟨k0,kZ,t3⟩:=aO m cT er _ cC bc t2.top dy;exact ⟨k0,kZ,(t.trans t2).trans t3⟩
    ·simp[HM.go]at aq
   ·simp[HM.go]at e
  ·rename_i dg eJ b6 t0 m heq;injection heq with bj bU
   subst bj bU;simp only[HM.go]at e;split at e
   ·rename_i ai t1 xs fz ag;simp only[HM.go]at e;obtain ⟨cT,g,-⟩:=J5 h o (fo (by rw[ag];rfl));have t1:=fO.ghost g aQ;obtain ⟨k0,kZ,t3⟩:=aO m cT ι _ n e t1.top g.rel;exact ⟨k0,kZ,t1.trans t3⟩
   ·simp[HM.go]at e
  ·rename_i dg eJ m heq;injection heq with bj bU
   subst bj bU;simp only[HM.go]at e;split at e
   ·rename_i ai t1 xs fz ag;simp only[HM.go]at e;have Ag:o<H.length:=fo (by rw[ag];rfl);have bo: ∀i,aF (bM H o .gone) i=if i=o then .gone else aF H i:=fun i=>fm H o _ i (Nat.le_of_lt Ag)
    have lr: ∀i,(aF (bM H o .gone) i).owns=true->(aF H i).owns=true:=fun i=>by
     rw[bo];split
     ·intro aw;cases aw
     ·exact fun aw=>aw
    have ej: ∀i,(aF (bM H o .gone) i).live=(aF H i).live:=fun i=>by
     rw[bo];split
     ·rename_i e;subst e;rw[ag];rfl
     ·rfl
    have dy:bR φ ι w (bM H o .gone):=by
     refine h.update (fun i=>i=o) (fun i ab=>by rw[bo,if_neg ab]) (fun _ _=>rfl) (fun i ab=>by rw[ej];exact ab) (fun i ab=> ?_) (fun i ab j ay=> ?_) (fun _ _ _ _ _=>rfl) (fun _ _ _=>rfl) (fun i j bK ab aa ad al aE=> ?_)
     ·subst ab;rw[bo,if_pos rfl];exact trivial
     ·subst ab;rw[bo,if_pos rfl]at ay;simp[aG.ids]at ay
     ·subst ab;rw[bo,if_pos rfl]at aa;cases aa
    have t2:fO φ ι w H n φ ι (bM H o .gone) n:=
     ⟨dy,⟨fun _ _ h=>h,fun _ _ _=>rfl,fun _ _ h=>.inl h,Nat.le_refl _,rfl,rfl,rfl,fun _ _ _=>rfl,fun b ⟨i,aa,ad⟩=>.inr ⟨i,lr i aa,ad⟩⟩,⟨fun _ _=>rfl,fun i ab=>by rw[ej];exact ab⟩,by rw[gM H o _ Ag];exact aQ⟩
    obtain ⟨k0,kZ,t3⟩:=aO m φ ι _ n e t2.top dy;exact ⟨k0,kZ,t2.trans t3⟩
   ·exact aO m φ ι H n e aQ h
  ·rename_i x eJ y m cp awz awA heq;injection heq with bj bU
   subst bj bU;exact aO m φ ι H n e aQ h
  ·obtain ⟨-,rfl,rfl⟩:=go_ret e;exact ⟨φ,ι,fO.refl h aQ⟩
theorem bD.get_ren (ρ:Nat->Nat) (R:bD) (d:Nat):(R.ren ρ).get d=(R.get d).map (ae.ren ρ):=by
 induction R with
 |nil=>rfl
 |cons p l aO=>
  obtain ⟨e,r⟩:=p;simp only[bD.ren,bD.get];cases Nat.beq d e
  ·simpa using aO
  ·rfl
theorem bD.get_ids {R:bD} {d:Nat} {r:ae} (h:R.get d=some r): ∀i∈r.ids,i∈R.ids:=by
 induction R with
 |nil=>simp[bD.get]at h
 |cons p l aO=>
  obtain ⟨e,x⟩:=p;simp only[bD.get]at h;intro i ab;simp only[bD.ids,List.mem_append];cases ag:Nat.beq d e
  ·simp only[ag,aM]at h;exact .inr (aO h i ab)
  ·simp only[ag,az,bt]at h;subst h;exact .inl ab
theorem UJ [Env]: ∀(s:List (Nat×b5)) (R R':bD) (φ:bw) (ι:Nat->Value) (H:List aG) (n:Nat) (aC:List aG) (aJ:Nat),(Cd s R).go H n=some (R',aC,aJ)->n=H.length->bR φ ι w H->k5 φ ι w H R tm->
  ∃φ' ι',fO φ ι w H n φ' ι' aC aJ/\k5 φ' ι' w aC R' tm/\ ∀i∈R'.ids,(aF aC i).live=true
 |[],R,R',φ,ι,H,n,aC,aJ,e,aQ,h,aA=>by
  simp only[Cd]at e;obtain ⟨rfl,rfl,rfl⟩:=go_ret e;exact ⟨φ,ι,fO.refl h aQ,fun d r ax=>by simp[bD.get]at ax,by simp[bD.ids]⟩
 |(d,s)::l,R,R',φ,ι,H,n,aC,aJ,e,aQ,h,aA=>by
  simp only[Cd]at e;split at e
  ·rename_i r ax;obtain ⟨au,H1,cC,ai,aq⟩:=HM.go_bind_some e;obtain ⟨h0,eg,dk,bc,bz⟩:=HM.go_bind_some aq;obtain ⟨rfl,rfl,rfl⟩:=go_ret bz;obtain ⟨cT,er,t1,a1,k2⟩:=J3 s r au (tm d) φ ι H n H1 cC ai aQ h (aA d r ax).1 (aA d r ax).2;obtain ⟨dv,dz,t2,b8,dD⟩:=UJ l R h0 cT er H1 cC _ _ bc t1.top t1.rel (aA.step t1.step t1.keep);refine ⟨dv,dz,t1.trans t2,fun e x aw=> ?_,fun i ab=> ?_⟩
   ·simp only[bD.get]at aw;cases ag:Nat.beq e d
    ·simp only[ag,aM]at aw;exact b8 e x aw
    ·simp only[ag,az,bt]at aw;have:e=d:=by simpa using ag
     subst this aw;exact ⟨ae.rel_step t2.step t2.keep k2 a1,fun i ab=>t2.keep.live i (k2 i ab)⟩
   ·simp only[bD.ids,List.mem_append]at ab;rcases ab with ab |ab
    ·exact t2.keep.live i (k2 i ab)
    ·exact dD i ab
  ·simp[HM.go]at e
theorem X3 [Env] {S:Shape} {m:Nat} {R:bD} {aW:bn} (e:(Ev S m R).go H n=some (aW,aC,aJ)) (aQ:n=H.length) (h:bR φ ι w H) (aA:k5 φ ι w H R tm) (hm:fC m H):
  ∃φ' ι',bR φ' ι' w aW.heap/\k5 φ' ι' w aW.heap aW.regs tm/\Step φ ι w H φ' ι' w aW.heap/\gK m ι H ι' aW.heap/\fC m aW.heap/\m<=aW.heap.length/\fC aW.heap.length aW.heap:=by
 unfold Ev at e;obtain ⟨h0,H1,cC,ai,aq⟩:=HM.go_bind_some e;obtain ⟨cT,er,t1,a1,k2⟩:=UJ S.regs R h0 φ ι H n H1 cC ai aQ h aA;clear e;obtain ⟨p,eg,dk,bc,bz⟩:=HM.go_bind_some aq;clear aq;obtain ⟨g1,g2,-⟩:=xb 200 _ [] [] p eg dk bc rfl (by simp) (by simp);rw[g1,g2]at bz;obtain ⟨u,ko,n3,dh,c7⟩:=HM.go_bind_some bz;clear bz;obtain ⟨dv,dz,t2⟩:=aju p.1 S.objs u cT er H1 cC ko n3 dh t1.top t1.rel;have t:=t1.trans t2;obtain ⟨q,HB,n4,iP,ld⟩:=HM.go_bind_some c7;clear c7;have N5:fC m ko:=fun o an=>t.keep.live o (hm o an)
 have gs:=xb 200 _ [] [] q HB n4 iP rfl (by simp) (by simp);obtain ⟨-,-,lh,ds,-,ft⟩:=gs;have N7:=ft t.rel.live_ids (fun i ab=>by
  rcases List.mem_append.1 ab with ab |ab
  ·exact N5 i (ZQ.1 ab)
  ·exact t2.keep.live i (k2 i ab)) (by simp)
 obtain ⟨cr,NV⟩:=Xc (jE m) 200 h0.ids [] [] q HB n4 iP (by simpa using aoP m);rw[List.nil_append]at NV;obtain ⟨rfl,-,-⟩:=go_ret ld;have b8:k5 dv dz w ko h0 tm:=a1.step t2.step t2.keep;have abV: ∀o,o<m->q.1[o]? =some o:=fun o an=>by
  rw[NV,List.getElem?_append_left (by rw[Z5];exact an)];exact af8 an
 have hlen:(q.2.map (aG.ren (idx q.1))).length=q.1.length:=by rw[lh.obs];simp
 refine ⟨dv,jD dz q.1,aaI t.rel lh N7,fun d r ax=> ?_,t.step.trans (af0 lh),fun o an eI=> ?_,fun o an=> ?_,?_,fun o an=>aaH lh N7 o an⟩
 ·simp only[bD.get_ren,Option.map_eq_some_iff]at ax;obtain ⟨x,aw,rfl⟩:=ax;have acv: ∀i∈x.ids,i∈q.1:=fun i ab=>ds i (List.mem_append.2 (.inr (bD.get_ids aw i ab)))
  refine ⟨ae.ren_rel _ x _ (fun i ab=>DL (acv i ab)) (b8 d x aw).1,?_⟩;rw[ae.ren_ids];exact Z2 lh N7 acv
 ·have aa:=abV o an;refine ⟨?_,?_⟩
  ·have:jD dz q.1 o=dz o:=by simp[jD,List.getD_eq_getElem?_getD,aa]
   rw[this];exact t.keep.iota o eI
  ·show (aF (jf q.1 q.2) o).live=true;rw[l8 lh aa,aG.ren_live];exact N5 o an
 ·show (aF (jf q.1 q.2) o).live=true;rw[l8 lh (abV o an),aG.ren_live];exact N5 o an
 ·simp only[hlen];rw[NV,List.length_append,Z5];omega
theorem apx [Env] (h:bR φ ι w H) {o:Nat} {e:TypeId} {t:aD} {xs:List t.den} {fz:Bool} (an:aF H o=.arr e t xs fz) (aQ:n=H.length):
  fO φ ι w H n φ (ip ι n (ι o)) (bM (bM H o .gone) n (.arr e t xs fz)) (n+1):=by
 have cR:=h.obj o;rw[an]at cR;have mK:(aF H o).owns=true:=by rw[an];rfl
 have gE:(aF H n).live=false:=by rw[aQ,nC (Nat.le_refl _)];rfl
 obtain ⟨a1,k2,b8,dD⟩:=uI (φ':=φ) (w':=w) h mK (by omega) gE (v:=ι o) (ob:=.arr e t xs fz) rfl rfl rfl rfl rfl (Nat.le_refl _) (fun _ _ _=>rfl) (fun _ _ h=>h) (fun _ _ _=>rfl) (fun _ _ h=>.inl h)
  (fun b ag=>.inr ag) (by
   obtain ⟨A,m,c,f1,f2⟩:=cR;exact ⟨A,m,c,by simpa [ip] using f1,f2⟩)
 exact ⟨a1,k2,b8,(dD.seq aQ).symm⟩
theorem G4 [Env]: ∀(l:List dn) (o:Nat) (q:List (Nat×Nat)) (ι:Nat->Value) (H:List aG) (n:Nat) (aC:List aG) (aJ:Nat),(sf l o).go H n=some (q,aC,aJ)->n=H.length->bR φ ι w H->
  ∃ι',fO φ ι w H n φ ι' aC aJ/\(q=[]->aC=H/\aJ=n/\ι'=ι)/\ ∀i,(aF aC i).live=true->ι' (fwd q i)=ι' i/\(aF aC (fwd q i)).live=true
 |[],o,q,ι,H,n,aC,aJ,e,aQ,h=>by
  simp only[sf]at e;obtain ⟨rfl,rfl,rfl⟩:=go_ret e;exact ⟨ι,fO.refl h aQ,fun _=>⟨rfl,rfl,rfl⟩,fun i ab=>⟨rfl,ab⟩⟩
 |s::l,o,q,ι,H,n,aC,aJ,e,aQ,h=>by
  by_cases ar:s=.gone
  ·subst ar;simp only[sf,HM.go]at e;split at e
   ·rename_i b6 t xs fz cR;simp only[HM.go]at e;obtain ⟨bU,eg,dk,ai,aq⟩:=HM.go_bind_some e;obtain ⟨rfl,rfl,rfl⟩:=go_ret aq;have j3:=apx h cR aQ;have eI:(aF H o).live=true:=by rw[cR];rfl
    have bb:=fo eI;obtain ⟨ι',T2,-,al⟩:=G4 l (o+1) bU _ _ _ _ _ ai j3.top j3.rel;refine ⟨ι',j3.trans T2,⟨fun aN=>(by cases aN),fun i ab=> ?_⟩⟩;have jq:o≠n:=by omega
    have abU:(aF (bM (bM H o .gone) n (.arr b6 t xs fz)) n).live=true:=by
     rw[fm _ n _ n (by rw[gM H o _ bb];omega),if_pos rfl];rfl
    simp only[fwd];cases ag:Nat.beq i o
    ·simp only[aM];exact al i ab
    ·simp only[az];have:i=o:=by simpa using ag
     subst this;refine ⟨?_,T2.keep.live _ abU⟩;rw[T2.keep.iota _ abU,T2.keep.iota _ (j3.keep.live _ eI),j3.keep.iota _ eI];simp[ip]
   ·exact G4 l (o+1) q ι H n aC aJ e aQ h
  ·refine G4 l (o+1) q ι H n aC aJ ?_ aQ h;cases s with
   |gone=>exact absurd rfl ar
   |_=>exact e
theorem Iu [Env] {ρ:Nat->Nat}: ∀(l:List Nat) (u:Unit) (H:List aG) (n:Nat) (aC:List aG) (aJ:Nat),(uH ρ l).go H n=some (u,aC,aJ)->n=H.length->bR φ ι w H->(∀i,(aF H i).live=true->ι (ρ i)=ι i/\(aF H (ρ i)).live=true)->
  fO φ ι w H n φ ι aC aJ
 |[],u,H,n,aC,aJ,e,aQ,h,AE=>by
  simp only[uH]at e;obtain ⟨-,rfl,rfl⟩:=go_ret e;exact fO.refl h aQ
 |o::l,u,H,n,aC,aJ,e,aQ,h,AE=>by
  simp only[uH,HM.go]at e;split at e
  ·rename_i T t r cR;simp only[HM.go]at e;have bb:o<H.length:=fo (by rw[cR];rfl);have bo: ∀i,aF (bM H o (.box T t (r.ren ρ))) i=if i=o then .box T t (r.ren ρ) else aF H i:=fun i=>fm H o _ i (Nat.le_of_lt bb)
   have lr: ∀i,(aF (bM H o (.box T t (r.ren ρ))) i).owns=(aF H i).owns:=fun i=>by
    rw[bo];split
    ·rename_i e;subst e;rw[cR];rfl
    ·rfl
   have ej: ∀i,(aF (bM H o (.box T t (r.ren ρ))) i).live=(aF H i).live:=fun i=>by
    rw[bo];split
    ·rename_i e;subst e;rw[cR];rfl
    ·rfl
   have eu: ∀i∈r.ids,(aF H i).live=true:=fun i ab=>h.idsB o T t r cR i ab
   have dy:bR φ ι w (bM H o (.box T t (r.ren ρ))):=by
    refine h.update (fun i=>i=o) (fun i ab=>by rw[bo,if_neg ab]) (fun _ _=>rfl) (fun i ab=>by rw[ej];exact ab) (fun i ab=> ?_) (fun i ab j ay=> ?_) (fun _ _ _ _ _=>rfl) (fun _ _ _=>rfl) (fun i j bK _ aa ad al aE=> ?_)
    ·subst ab;rw[bo,if_pos rfl];have aw:=h.obj i;rw[cR]at aw;obtain ⟨b,cur,fr,v,g1,g2,g3,g4,g5,g6,g7,g8,g9⟩:=aw;exact ⟨b,cur,fr,v,g1,g2,g3,g4,g5,ae.ren_rel ρ r v (fun j ay=>(AE j (eu j ay)).1) g6,g7,by rw[ae.ren_fits];exact g8,g9⟩
    ·subst ab;rw[bo,if_pos rfl]at ay;have ay:j∈(r.ren ρ).ids:=ay;rw[ae.ren_ids]at ay;obtain ⟨k,av,rfl⟩:=List.mem_map.1 ay;rw[ej];exact (AE k (eu k av)).2
    ·rw[lr]at aa ad;exact h.apart i j bK aa ad al aE
   have j3:fO φ ι w H n φ ι (bM H o (.box T t (r.ren ρ))) n:=
    ⟨dy,⟨fun _ _ h=>h,fun _ _ _=>rfl,fun _ _ h=>.inl h,Nat.le_refl _,rfl,rfl,rfl,fun _ _ _=>rfl,fun b ⟨i,aa,ad⟩=>.inr ⟨i,by rw[<-lr];exact aa,ad⟩⟩,⟨fun _ _=>rfl,fun i ab=>by rw[ej];exact ab⟩,by rw[gM H o _ bb];exact aQ⟩
   exact j3.trans (Iu l u _ n _ _ e j3.top dy (fun i ab=>by
    rw[ej]at ab ⊢;exact AE i ab))
  ·exact Iu l u H n aC aJ e aQ h AE
theorem Y0 [Env] {S:Shape} {m:Nat} {R:bD} {aW:bn} (e:(x1 S m R).go H n=some (aW,aC,aJ)) (aQ:n=H.length) (h:bR φ ι w H) (aA:k5 φ ι w H R tm) (hm:fC m H):
  ∃φ' ι',bR φ' ι' w aW.heap/\k5 φ' ι' w aW.heap aW.regs tm/\Step φ ι w H φ' ι' w aW.heap/\gK m ι H ι' aW.heap/\fC m aW.heap/\m<=aW.heap.length/\fC aW.heap.length aW.heap:=by
 unfold x1 at e;obtain ⟨q,H1,cC,ai,aq⟩:=HM.go_bind_some e;obtain ⟨er,j3,bY,aK⟩:=G4 _ 0 q ι H n H1 cC ai aQ h;split at aq
 ·obtain ⟨rfl,rfl,rfl⟩:=bY rfl;exact X3 aq aQ h aA hm
 ·obtain ⟨p,eg,dk,bc,bz⟩:=HM.go_bind_some aq;obtain ⟨g1,g2,-⟩:=xb 200 _ [] [] p eg dk bc rfl (by simp) (by simp);rw[g1,g2]at bz;obtain ⟨u,ko,n3,dh,c7⟩:=HM.go_bind_some bz;have T2:=Iu p.1 u H1 cC ko n3 dh j3.top j3.rel aK;have T:=j3.trans T2;have asB:k5 φ er w ko (R.ren (fwd q)) tm:=by
   intro d r ax;rw[bD.get_ren]at ax;obtain ⟨x,aw,rfl⟩:=Option.map_eq_some_iff.1 ax;obtain ⟨a1,k2⟩:=aA.step j3.step j3.keep d x aw;refine ⟨ae.ren_rel _ x _ (fun i ab=>(aK i (k2 i ab)).1) a1,fun i ab=> ?_⟩;rw[ae.ren_ids]at ab;obtain ⟨j,ay,rfl⟩:=List.mem_map.1 ab;exact T2.keep.live _ (aK j (k2 j ay)).2
  have s0:fC m ko:=fun o an=>T.keep.live o (hm o an)
  obtain ⟨φ',ι',eo,a2,a3,a4,a5,oP,x2⟩:=X3 c7 T.top T.rel asB s0;exact ⟨φ',ι',eo,a2,T.step.trans a3,fun o an ao=>⟨((a4 o an (s0 o an)).1).trans (T.keep.iota o ao),(a4 o an (s0 o an)).2⟩,a5,oP,x2⟩
theorem j9 [Env] {S:Shape} {m:Nat} {nt:hV} {st:bn} {a:Act} {s:S.ty.den} (e:(S.take m st).val=some s) (bV:cO φ ι w nt st a) (hm:fC m st.heap):
  ∃φ' ι',cO φ' ι' w nt (S.enc s) a/\Step φ ι w st.heap φ' ι' w (S.enc s).heap/\gK m ι st.heap ι' (S.enc s).heap/\m<=(S.enc s).heap.length/\fC (S.enc s).heap.length (S.enc s).heap:=by
 unfold Shape.take at e;obtain ⟨⟨aW,cb,aJ,p'⟩,ai,aq⟩:=DT.val_bind_some e;simp only[DT.val_ofOpt]at aq;have bc:=Shape.dec_enc aq;obtain ⟨φ',ι',a1,k2,b8,dD,gb,ho,wc⟩:=Y0 (tm:=lE a) (HM.go_run _ _ _ _ _ _ _ _ ai) rfl bV.heap bV.regs hm;rw[bc];exact ⟨φ',ι',⟨a1,k2,bV.nt,bV.small,bV.defers.step b8⟩,b8,dD,ho,wc⟩
end
open Go.RowKit
def fW (nt:Nat):Code->Bool
 | .region _ ops _=>ops.toList.all (nT nt)
 | .seq a b=>fW nt a&&fW nt b
 | .cond _ a b=>fW nt a&&fW nt b
 | .block _ c=>fW nt c
 | .loop c=>fW nt c
 | .scope c=>fW nt c
 |_=>true
section
variable {P:Program} {Q:Exit->Act->World->Prop} {a:Act} {w:World}
variable {F:Fence} {n:Nat}
theorem w0 {c:Code} {b:Frame} {k:List Item} {cs:List Frame}:step P (lone (b.atR a (.code (.scope c)::k)) cs w)=.next (lone (b.atR a (.code c:: .inScope c::k)) cs w):=
 step_lone_go (by simp[stepG,stepG.exec,Frame.atR])
theorem alG {c:Code} {b:Frame} {k:List Item} {cs:List Frame}:step P (lone (b.atR a (.inScope c::k)) cs w)=.next (lone (b.atR a k) cs w):=
 step_lone_go (by simp[stepG,stepG.exec,Frame.atR])
def ahI (Q:Exit->Act->World->Prop):Exit->Act->World->Prop
 | .goto _,_,_=>False
 |e,a,w=>Q e a w
theorem Yk {c:Code} (h:c.wpIn F n P (ahI Q) a w):(Code.scope c).wpIn F n P Q a w:=by
 intro b k cs bZ ag aA;have bY:(lone (b.atR a (.code (.scope c)::k)) cs w).fenced P F:=fenced_calm ag aA rfl;obtain ⟨e,y9,BO,aN,gn⟩:=h b (.inScope c::k) cs bZ ag aA;cases e with
 |normal=>exact ⟨.normal,y9,BO,aN,.head bY w0 (StepsIn.trans gn (.one (fenced_calm ag aA rfl) alG))⟩
 |exit id=>
  have aw:exitTo id (.inScope c::k)=exitTo id k:=by simp[exitTo]
  exact ⟨.exit id,y9,BO,aN,fun k' av=>.head bY w0 (gn.1 k' (by rw[aw];exact av)),
   fun Ol av=>let ⟨k₁,aa,ad⟩:=gn.2 Ol (by rw[aw];exact av);⟨k₁,aa,.head bY w0 ad⟩⟩
 |goto l=>exact aN.elim
 |ret=>exact ⟨_,y9,BO,aN,.of_steps (.one bY w0) gn⟩
 |panic kz=>exact ⟨_,y9,BO,aN,.of_steps (.one bY w0) gn⟩
 |outgrown=>exact ⟨_,y9,BO,aN,.of_steps (.one bY w0) gn⟩
end
def jA:dw->Exit
 | .nrm=>.normal | .exit i=>.exit i | .ret=>.ret
section
variable {P:Program} {cx:bS} {Γ:gi} {φ:bw} {ι:Nat->Value} {w:World} {nt:hV} {st aW:bn} {a:Act} {ops:Array Oper}
theorem anO (H:List aG) (k i:Nat):aF (H++List.replicate k .hole) i=aF H i:=by
 unfold aF;simp only[List.getD_eq_getElem?_getD];rcases Nat.lt_or_ge i H.length with h |h
 ·rw[List.getElem?_append_left h]
 ·rw[List.getElem?_append_right h,List.getElem?_eq_none h];rcases Nat.lt_or_ge (i-H.length) k with ad |ad
  ·simp[List.getElem?_replicate,ad]
  ·simp[List.getElem?_replicate,Nat.not_lt.2 ad]
theorem ano [Env] (tab:cA P cx) (cE:bL P Γ) (hm:P.follows .mixedOrders=true) {draw:Bool} {id:Nat} {Q:Exit->Act->World->Prop} (e:(Ln cx Γ ops draw st).val=some aW) (s:cO φ ι w nt st a) (ax:ops.toList.all (nT nt.n)=true) (ik:ops.toList.any sK=true->nt.df)
  (k: ∀bd w' φ' ι',cO φ' ι' w' nt aW bd->Step φ ι w st.heap φ' ι' w' aW.heap->dA ι st.heap ι' aW.heap->Q .normal bd w'):(Code.region id ops draw).wpIn (ed nt.ro) 0 P Q a w:=by
 unfold Ln at e;cases draw
 ·simp only[aM]at e;exact wpIn_region_list (Hu tab cE ops.toList st aW φ ι w a e s ax ik k)
 ·simp only[az]at e;obtain ⟨⟨dC,ns⟩,ai,aq⟩:=DT.val_bind_some e;clear e;simp only at aq;cases ag:su (iY ops.toList) 0 ns&&uS 0 ops.toList
  ·simp[ag,DT.val]at aq
  ·simp only[ag,az,DT.val,bt]at aq;subst aq;simp only[bB]at ag;obtain ⟨bj,bU,da,c8⟩:=Xu (L:=st.heap.length+slotsOf*ops.size) ops.toList 0 _ dC [] ns ai rfl (fun k=>by simp) (by simp);have qU: ∀x y,x<y->y<ops.size->((iY ops.toList).getD y 0).testBit x=true\/El ops (oX ns) x y:=by
    intro x y q3 bf;have hlen:ns.length=ops.size:=by rw[bj];simp
    have Av:x<ns.length:=by omega
    have Ay:y<ns.length:=by omega
    have ex:ns[x]? =some ns[x]:=List.getElem?_eq_getElem Av;have MQ:ns[y]? =some ns[y]:=List.getElem?_eq_getElem Ay;rcases YI ns 0 ag.1 x y _ _ q3 ex MQ with h |h
    ·left;simpa using h
    ·right;simp only[lJ.apart,bB]at h;obtain ⟨⟨⟨⟨⟨⟨⟨aa,ad⟩,al⟩,aE⟩,aZ⟩,bu⟩,dq⟩,h4⟩:=h;have zK:oX ns x=ns[x].fp:=by simp[oX,ex]
     have zL:oX ns y=ns[y].fp:=by simp[oX,MQ]
     refine ⟨fun atG atH asv asw=> ?_,?_,?_,?_,?_,?_⟩
     ·have nx:=da x atG _ (by simpa using asv) (by rw[Nat.zero_add];exact ex);have Pd:=da y atH _ (by simpa using asw) (by rw[Nat.zero_add];exact MQ);rw[nx.1,Pd.2]at aa;rw[nx.1,Pd.1]at ad;rw[nx.2,Pd.1]at al;refine ⟨fun d ax=>⟨rN aa d (by simp[ax]),fun jM=> ?_⟩,fun d ax hu=> ?_⟩
      ·exact rN ad d (by simp[ax]) (by simp[jM])
      ·exact rN al d hu (by simp[ax])
     ·rw[zK,zL];exact rN bu
     ·rw[zK,zL];exact rN aE
     ·rw[zK,zL];exact rN aZ
     ·rw[zK,zL];intro o an gZ;exact rN dq o gZ an
     ·rw[zK,zL];intro o an gZ;exact rN h4 o gZ an
   have bo:=anO st.heap (slotsOf*ops.size);have dy:bR φ ι {w with drawn:=w.drawn+1} (st.heap++List.replicate (slotsOf*ops.size) .hole):=
    s.heap.update (fun _=>False) (fun i _=>bo i) (fun _ _=>rfl) (fun i h=>by rw[bo];exact h) (fun _ h=>h.elim) (fun _ h=>h.elim) (fun _ _ _ _ _=>rfl) (fun _ _ _=>rfl) (fun _ _ _ h=>h.elim)
   have fx:Step φ ι w st.heap φ ι {w with drawn:=w.drawn+1} (st.heap++List.replicate (slotsOf*ops.size) .hole):=
    ⟨fun _ _ h=>h,fun _ _ _=>rfl,fun _ _ h=>.inl h,Nat.le_refl _,rfl,rfl,rfl,fun _ _ _=>rfl,fun b ⟨i,aa,ad⟩=>.inr ⟨i,by rw[<-bo];exact aa,ad⟩⟩
   have jY:cO φ ι {w with drawn:=w.drawn+1} nt ⟨st.regs,st.heap++List.replicate (slotsOf*ops.size) .hole⟩ a:=
    ⟨dy,fun d r aA=>⟨ae.rel_mono (φ:=φ) (ι:=ι) (w:=w) (w':={w with drawn:=w.drawn+1}) (fun _ _ h=>h) (fun _ _ _=>rfl) r _ (fun _ _=>rfl) (s.regs d r aA).1,fun i ab=>by simp only[bo];exact (s.regs d r aA).2 i ab⟩,s.nt,s.small,s.defers.step fx⟩
   have atc:dA ι st.heap ι (st.heap++List.replicate (slotsOf*ops.size) .hole):=⟨fun _ _=>rfl,fun i h=>by rw[bo];exact h⟩;refine wpIn_region_any hm ?_;refine aov tab cE (base:=st.heap.length) (L:=st.heap.length+slotsOf*ops.size) (N:=oX ns) ax ag.2 qU (Nat.le_refl _) k ops.size _ (List.range' 0 ops.size) _ φ ι _ a (by simp) List.pairwise_lt_range' (by simp) (fun i=> ?_) (fun i aa ad=> ?_) (fun i ab cB aa ad=> ?_) (by simp) (by simpa using c8) jY fx atc
   ·simp only[List.mem_range'_1,Nat.zero_le,true_and,Nat.zero_add];constructor
    ·intro h;exact ⟨h,by simp[Array.getD_eq_getD_getElem?,h]⟩
    ·exact fun h=>h.1
   ·exact absurd (by simp[List.mem_range'_1];exact aa) ad
   ·rw[bo,nC (by omega)];rfl
def eb:Code->Bool
 | .seq a b=>eb a||eb b
 | .cond _ a b=>eb a||eb b
 | .block _ c=>eb c
 | .loop c=>eb c
 | .scope c=>eb c
 | .rangeFunc ..=>true
 |_=>false
def fh:Code->Bool
 | .region _ ops _=>ops.toList.any sK
 | .seq a b=>fh a||fh b
 | .cond _ a b=>fh a||fh b
 | .block _ c=>fh c
 | .loop c=>fh c
 | .scope c=>fh c
 |_=>false
structure hf (nt:hV) (c:Code):Prop where
 rf:eb c=true->nt.rf
 df:fh c=true->nt.df
theorem hf.of {nt:hV} {c c':Code} (h:hf nt c) (aa:eb c'=true->eb c=true) (ad:fh c'=true->fh c=true):hf nt c':=⟨fun x=>h.rf (aa x),fun x=>h.df (ad x)⟩
theorem hf.fn {n b:Nat} {c:Code} (h:fh c=false):hf ⟨n,b,[],none,false⟩ c:=⟨fun _=>⟨rfl,rfl⟩,fun x=>absurd (h.symm.trans x) (by simp)⟩
theorem hf.no {nt:hV} {c:Code} (aa:eb c=false) (ad:fh c=false):hf nt c:=⟨fun x=>absurd (aa.symm.trans x) (by simp),fun x=>absurd (ad.symm.trans x) (by simp)⟩
theorem hf.fnD {n b:Nat} {c:Code} (h:eb c=false):hf ⟨n,b,[],none,true⟩ c:=⟨fun x=>absurd (h.symm.trans x) (by simp),fun _=>⟨rfl,rfl,rfl⟩⟩
def fS [Env] (P:Program) (F:a8) (n:Nat) (k:Nat) (c:Code):Prop:=
 ∀(nt:hV) (st:bn) (e:dw) (aW:bn) (φ:bw) (ι:Nat->Value) (w:World) (a:Act) (Q:Exit->Act->World->Prop),nt.n=n->hf nt (.loop c)->(F.Λ k st).val=some (e,aW)->cO φ ι w nt st a->fC F.m st.heap->
  (∀bd w' φ' ι',cO φ' ι' w' nt aW bd->Step φ ι w st.heap φ' ι' w' aW.heap->gK F.m ι st.heap ι' aW.heap->Q (jA e) bd w')->(Code.loop c).wpIn (ed nt.ro) 0 P Q a w
theorem anJ {ks:List Nat} {R:bD} {d:Nat} {r:ae} (h:(rY ks R).get d=some r):R.get d=some r:=by
 induction R with
 |nil=>simp[rY,bD.get]at h
 |cons p l aO=>
  obtain ⟨e,x⟩:=p;simp only[rY]at h;simp only[bD.get];cases av:has ks e
  ·simp only[av,aM]at h;cases ag:Nat.beq d e
   ·simpa using aO h
   ·have ai:d=e:=by simpa using ag
    subst ai;exfalso;have: ∀l:bD,(rY ks l).get d=none:=by
     intro l
     induction l with
     |nil=>rfl
     |cons p l aO=>
      obtain ⟨aq,mW⟩:=p;simp only[rY];cases jm:has ks aq
      ·simpa using aO
      ·simp only[az,bD.get];cases dB:Nat.beq d aq
       ·simpa using aO
       ·have:d=aq:=by simpa using dB
        subst this;rw[av]at jm;cases jm
    rw[this]at h;cases h
  ·simp only[av,az,bD.get]at h;cases ag:Nat.beq d e
   ·simp only[ag,aM]at h ⊢;exact aO h
   ·simp only[ag,az]at h ⊢;exact h
theorem VS [Env] {t:Nat->Value}: ∀(R R':bD) (φ:bw) (H:List aG) (n:Nat) (aC:List aG) (aJ:Nat),(yF R).go H n=some (R',aC,aJ)->bR φ ι w H->(∀q∈R,q.2.rel φ ι w (t q.1)/\ ∀i∈q.2.ids,(aF H i).live=true)->
  aJ=n/\ ∃φ',ef φ ι w H φ' aC/\ ∀q∈R',q.2.rel φ' ι w (t q.1)/\ ∀i∈q.2.ids,(aF aC i).live=true
 |[],R',φ,H,n,aC,aJ,e,h,aN=>by
  simp only[yF]at e;obtain ⟨rfl,rfl,rfl⟩:=go_ret e;exact ⟨rfl,φ,ef.refl h,by simp⟩
 |(d,r)::l,R',φ,H,n,aC,aJ,e,h,aN=>by
  simp only[yF]at e;obtain ⟨au,H1,cC,ai,e⟩:=HM.go_bind_some e;obtain ⟨de,eg,dk,aq,e⟩:=HM.go_bind_some e;obtain ⟨rfl,rfl,rfl⟩:=go_ret e;obtain ⟨bY,aqY⟩:=aN (d,r) (by simp);obtain ⟨rfl,cT,g1,An,vI⟩:=W8 ai h bY aqY;obtain ⟨rfl,dv,g2,vR⟩:=VS l de cT H1 _ _ _ aq g1.rel (fun q lv=>by
   obtain ⟨a1,k2⟩:=aN q (by simp[lv]);exact ⟨ae.rel_mono g1.step.phi g1.step.cells q.2 _ (fun _ _=>rfl) a1,fun i ab=>by rw[g1.live];exact k2 i ab⟩)
  refine ⟨rfl,dv,g1.trans g2,fun q lv=> ?_⟩;rcases List.mem_cons.1 lv with rfl |lv
  ·exact ⟨ae.rel_mono g2.step.phi g2.step.cells au _ (fun _ _=>rfl) An,fun i ab=>by rw[g2.live];exact vI i ab⟩
  ·exact vR q lv
theorem bD.get_mem {R:bD} {d:Nat} {r:ae} (h:R.get d=some r):(d,r)∈R:=by
 induction R with
 |nil=>simp[bD.get]at h
 |cons p l aO=>
  obtain ⟨e,x⟩:=p;simp only[bD.get]at h;cases ag:Nat.beq d e
  ·simp only[ag,aM]at h;exact List.mem_cons_of_mem _ (aO h)
  ·simp only[ag,az,bt]at h;have:d=e:=by simpa using ag
   subst this h;simp
theorem B6 {R:bD}: ∀(us:List Nat) (q:Nat×ae),q∈sk R us->R.get q.1=some q.2/\q.1≠c1
 |[],q,h=>by simp[sk]at h
 |d::us,q,h=>by
  simp only[sk]at h;cases ag:has us d||Nat.beq d c1
  ·simp only[ag,aM]at h;split at h
   ·rename_i r aA;rcases List.mem_cons.1 h with rfl |h
    ·exact ⟨aA,fun e=>by
     have e:d=c1:=e;simp only[Bool.or_eq_false_iff]at ag;rw[e,Nat.beq_refl c1]at ag;cases ag.2⟩
    ·exact B6 us q h
   ·exact B6 us q h
  ·simp only[ag,az]at h;exact B6 us q h
theorem XV {p:Int} {st aW:bn} {e:dw}: ∀(l:List dw),(yS l p st).val=some (e,aW)->p=l9 e/\aW=st
 |[],h=>by simp[yS,DT.val]at h
 |x::l,h=>by
  simp only[yS,DT.val]at h;cases ag:decide (p=l9 x)
  ·simp only[ag,aM]at h;exact XV l h
  ·simp only[ag,az,bt,cw]at h;obtain ⟨rfl,rfl⟩:=h;exact ⟨of_decide_eq_true ag,rfl⟩
theorem Eb {e f:dw} (h:l9 e=l9 f):e=f:=by
 cases e<;>cases f<;>simp only[l9]at h<;>first |rfl |omega |(congr 1;omega)
theorem ao5 (e:dw):0<=l9 e:=by cases e<;>simp[l9];omega
theorem hH.putObj (w:World) (l:Nat) (o:Obj):hH w (w.putObj l o) l:=⟨rfl,rfl,rfl,by simp[World.putObj],fun k av=>World.putObj_heap_other av⟩
theorem yg {l eJ:Nat} {a b c d:Array Value} (h:Value.func (.yield l) a b=Value.func (.yield eJ) c d):l=eJ:=by
 injection h with aa
 injection aa
theorem agT [Env] {H:List aG} (h:bR φ ι w H) {o b:Nat} {w':World} (an:(aF H o).owns=true) (ag:c6 (ι o)=some b) (g:hH w w' b) (iW: ∀k,¬φ b k):
  bR φ ι w' (bM H o .gone)/\Step φ ι w H φ ι w' (bM H o .gone)/\dA ι H ι (bM H o .gone):=by
 have eI:(aF H o).live=true:=by cases cR:aF H o<;>rw[cR]at an<;>first |rfl |(cases an)
 have bb:=fo eI;have bo: ∀i,aF (bM H o .gone) i=if i=o then .gone else aF H i:=fun i=>fm H o _ i (Nat.le_of_lt bb)
 have ao: ∀i,(aF H i).live=true->(aF (bM H o .gone) i).live=true:=fun i h=>by rw[bo];split<;>first |rfl |exact h
 have AF: ∀c k,φ c k->w'.cell? ⟨c,k,none⟩=w.cell? ⟨c,k,none⟩:=fun c k aB=>g.cell (fun e=>iW k (e▸aB))
 refine ⟨h.update (fun i=>i=o) (fun i dc=>by rw[bo,if_neg dc]) (fun _ _=>rfl) ao ?_ ?_ (fun i c dc hM aB=>g.blocks c ?_) AF ?_,?_,⟨fun _ _=>rfl,ao⟩⟩
 ·rintro i rfl;rw[bo,if_pos rfl];trivial
 ·rintro i rfl j ay;rw[bo,if_pos rfl]at ay;simp[aG.ids]at ay
 ·rintro rfl;exact dc (h.apart i o c hM an aB ag)
 ·rintro i j c rfl aa;rw[bo,if_pos rfl]at aa;cases aa
 ·refine ⟨fun _ _ h=>h,AF,fun _ _ h=>.inl h,by rw[g.size];exact Nat.le_refl _,g.os,g.tape,g.output,fun c aB aQ=>g.blocks c (fun e=>aQ ⟨o,an,e▸ag⟩),fun c aB=> ?_⟩;obtain ⟨i,aa,ad⟩:=aB;rw[bo]at aa;split at aa
  ·cases aa
  ·exact .inr ⟨i,aa,ad⟩
set_option maxHeartbeats 1000000 in
theorem agE [Env] {F:a8} (tab:cA P F.cx) (cE:bL P F.Γ) {Y:Nat} {g:Operand} {ps:Array Tmp} {x y:Code} {us MP:List Nat} {e:dw} {Q:Exit->Act->World->Prop} (vF:Env.code Y=some ⟨ps.toList,x,y,nt.n⟩)
  (NZ: ∀f∈F.its,∃fn,P.funcs[f]? =some fn/\(fn.name== "runtime.NumGoroutine")=false/\fn.body.isNone=false) (h:(Ib F Y g us MP st).val=some (e,aW)) (bZ:nt.rf) (bV:cO φ ι w nt st a) (lm:fC F.m st.heap)
  (cB: ∀bd w' φ' ι',cO φ' ι' w' nt aW bd->Step φ ι w st.heap φ' ι' w' aW.heap->gK F.m ι st.heap ι' aW.heap->Q (jA e) bd w'):(Code.rangeFunc g ps x y).wpIn (ed nt.ro) 0 P Q a w:=by
 unfold Ib at h;split at h
 ·rename_i f j6 bH;cases aB:has F.its f&& !hS f&&(st.regs.get c1).isNone
  ·simp[aB,DT.val]at h
  rw[aB,az]at h;simp only[bB,Bool.not_eq_true']at aB;obtain ⟨⟨mE,kb⟩,zS⟩:=aB;obtain ⟨abg,NR,NS,z6⟩:=NZ f (yH.1 mE);obtain ⟨⟨p,ad,dk,fp⟩,al,aE⟩:=DT.val_bind_some h;obtain ⟨FD,fH⟩:=XV _ aE;subst fH;have aZ:=HM.go_run _ _ _ _ _ _ _ _ al;unfold Sa at aZ;obtain ⟨h0,H1,cC,ai,aq⟩:=HM.go_bind_some aZ;have cH:=bV.eval g;rw[bH]at cH;obtain ⟨⟨xs,aT,arX,Ax,AA⟩,abT⟩:=cH;have Ax:xs= #[]:=by cases xs;simpa [ae.relT] using Ax
  subst Ax;obtain ⟨rfl,cT,g1,abz⟩:=VS (t:=fun d=>a.tmps.getD d undef) _ _ φ st.heap _ _ _ ai bV.heap (fun q aN=>by have:=bV.regs _ _ (B6 _ q aN).1;rwa [hp (B6 _ q aN).2]at this);simp only[HM.go]at aq;obtain ⟨rec,od⟩: ∃rec:FuncId->LoopState->Option Code->Loop,rec=fun fn st at3=>{state:=st,pending:=at3,fn,tmps:=a.tmps,params:=ps,assign:=x,body:=y,defers:=w.heap.size}:=⟨_,rfl⟩
  refine wpIn_rangeFunc ?_;intro Fc abM;have asG:(ed nt.ro).round=none:=bZ.1;rw[asG];obtain ⟨cV,fI⟩: ∃cV,(w.alloc (.deferred (some []))).alloc (.loop (rec Fc .ready none))=cV:=⟨_,rfl⟩;have ke:cV.heap.size=w.heap.size+2:=by rw[<-fI];simp
  have ard:cV.heap[w.heap.size+1]? =some (.loop (rec Fc .ready none)):=by
   rw[<-fI];have:=World.alloc_heap_new (w.alloc (.deferred (some []))) (.loop (rec Fc .ready none));rwa [World.size_alloc]at this
  have ara:cV.heap[w.heap.size]? =some (.deferred (some [])):=by
   rw[<-fI];exact (Below.heap_alloc _ _ _ (by simp)).trans (World.alloc_heap_new w _)
  have NW:gJ w cV:=by
   rw[<-fI];exact ⟨rfl,rfl,rfl,by simp;omega,fun b ag=>(Below.heap_alloc _ _ _ (by simp;omega)).trans (Below.heap_alloc w _ b ag)⟩
  have gE:(aF H1 st.heap.length).live=false:=by rw[nC (by rw[g1.len];exact Nat.le_refl _)];rfl
  have N4:st.heap.length<=H1.length:=by rw[g1.len];exact Nat.le_refl _
  have vH: ∀i,(aF H1 i).live=true->ip ι st.heap.length (.func (.yield (w.heap.size+1)) #[] #[]) i=ι i:=fun i ab=>by
   have:i≠st.heap.length:=by rintro rfl;rw[gE]at ab;cases ab
   simp[ip,this]
  obtain ⟨afS,Q4,Q5,avT⟩:=yW (v:=.func (.yield (w.heap.size+1)) #[] #[]) (ob:=.loop Y h0 0) g1.rel N4 gE NW
   ⟨w.heap.size+1,rec Fc .ready none,_,by simp[ip],⟨vF,ard,by rw[od],by rw[od],by rw[od],by rw[od];exact bV.nt,.inl ⟨rfl,by rw[od],by rw[od]⟩,fun q aN=>by
    have:=abz q aN;rw[od];exact ae.rel_mono (fun _ _ h=>h) (fun b k ag=>NW.cell (jt g1.rel ag)) q.2 _ (fun i ab=>vH i (this.2 i ab)) this.1,fun k av=>by have:=jt g1.rel av;omega⟩⟩
   (fun i ab=>by obtain ⟨q,aa,ad⟩:=bD.ids_mem ab;exact (abz q aa).2 i ad) rfl (fun b ag=>by
    have:w.heap.size+1=b:=by simpa [c6] using ag
    omega)
  obtain ⟨u,eg,n3,bc,bz⟩:=HM.go_bind_some aq;have ab5:(aF (bM H1 st.heap.length (.loop Y h0 0)) st.heap.length).live=true:=by rw[fm H1 _ _ _ N4,if_pos rfl];rfl
  have dt:hG (bM H1 st.heap.length (.loop Y h0 0)) (st.heap.length+1) n3:=by
   have:(bM H1 st.heap.length (.loop Y h0 0)).length=st.heap.length+1:=by
    have aa:=rB H1 (.loop Y h0 0)
    rwa [g1.len]at aa
   rw[<-this];exact Lq _ _
  have zU:=(iq.call kb).1 (Hc (vs:= #[.func (.yield (w.heap.size+1)) #[] #[]]++aT) cE bc afS (by
    rw[Array.toList_append];refine ⟨_,_,rfl,⟨by simp[ip],_,rfl⟩,?_⟩;refine ae.relT_mono (φ:=cT) (ι:=ι) (w:=w) (fun _ _ h=>h) (fun b k ag=>NW.cell (jt g1.rel ag)) j6 _ (fun i ab=>vH i (by rw[g1.live];exact abT i (by simp[ae.ids,ab]))) ?_;exact ae.relT_mono g1.step.phi g1.step.cells j6 _ (fun _ _=>rfl) AA) (fun i ab=>by
    simp only[ae.idsL,ae.ids,List.mem_append,List.mem_singleton]at ab;rcases ab with rfl |ab
    ·exact ab5
    ·exact Q5.live i (by rw[g1.live];exact abT i (by simp[ae.ids,ab]))) dt)
  have abH:(callFunc f (#[.func (.yield (w.heap.size+1)) #[] #[]]++aT)).run P cV=.ok (.enter f (#[.func (.yield (w.heap.size+1)) #[] #[]]++aT)) cV:=by
   unfold callFunc;have z7: ¬abg.name= "runtime.NumGoroutine":=by simpa using NS
   have NT: ¬abg.body=none:=by
    intro bY;rw[bY]at z6;cases z6
   simp[NR,z7,NT]
  have arx:=zU.resolve_right (fun ⟨v,w',aa,_⟩=>by rw[abH]at aa;injection aa with aa _;cases aa);refine ⟨w.heap.size+1,[u4 w.heap.size],cV,{target:=.fn (.func f) aT,args:= #[.func (.yield (w.heap.size+1)) #[] #[]]},cV,f,#[.func (.yield (w.heap.size+1)) #[] #[]]++aT,cV,?_,?_,fun _ _=>trivial,?_,(fun h=>by cases h),?_⟩
  ·rw[<-fI,od];exact run_enterLoop_outer _ _ _ _ _
  ·simp only[resolve,arX];simp[go_sem]
  ·simp only[invoke];exact abH
  refine KC nt.ro ?_;refine Calls.mono arx.2 fun aa9 w'=> ?_
  rintro ⟨v,φ',ι',rfl,a7,aY,c3,fe,c5,o6⟩;simp only[HM.go]at bz;split at bz
  ·rename_i mq uq gH cR;simp only[HM.go]at bz;obtain ⟨rfl,rfl,rfl⟩:=go_ret bz;have ab9:=a7.obj st.heap.length;rw[cR]at ab9;obtain ⟨cP,nF,aaY,eM,gV⟩:=ab9;have e0:ι' st.heap.length=.func (.yield (w.heap.size+1)) #[] #[]:=by
    rw[c3.iota _ ab5];simp[ip]
   have gP:cP=w.heap.size+1:=yg (eM.symm.trans e0);subst gP;have fH:nF.state≠ .busy/\(match e with | .nrm=>nF.pending=none |e=>nF.pending=some (MO e)):=by
    rcases gV.st with ⟨bj,bU,da⟩|⟨bj,bU⟩|⟨dx,bj,bU,da,c8⟩
    ·have:e=.nrm:=Eb (FD.symm.trans bj);subst this;exact ⟨by rw[bU];simp,da⟩
    ·have:=ao5 e;omega
    ·have:e=dx:=Eb (FD.symm.trans bj);subst this;refine ⟨by rw[da];simp,?_⟩;cases e with
     |nrm=>exact absurd rfl bU
     |ret=>exact c8
     |exit i=>exact c8
   have zZ:=run_endLoop (P:=P) gV.heap fH.1;obtain ⟨jv,OG⟩: ∃jv,w'.putObj (w.heap.size+1) (.loop {nF with state:=.exhausted})=jv:=⟨_,rfl⟩;rw[OG]at zZ;have acs:hH w' jv (w.heap.size+1):=by rw[<-OG];exact hH.putObj _ _ _
   have ij:c6 (ι' st.heap.length)=some (w.heap.size+1):=by rw[e0];rfl
   obtain ⟨afN,Q1,afO⟩:=agT a7 (o:=st.heap.length) (by rw[cR];rfl) ij acs gV.phi;have afV:Step φ ι w st.heap cT ι w H1:=g1.step;have xS:=((afV.trans Q4).trans aY).trans Q1;have HC:=((g1.keep.trans Q5).trans c3).trans afO;have ab6: ¬ir (ip ι st.heap.length (.func (.yield (w.heap.size+1)) #[] #[])) (bM H1 st.heap.length (.loop Y h0 0)) w.heap.size:=by
    intro h;rcases Q4.own _ h with aa |aa
    ·obtain ⟨o,bj,bU⟩:=h;rw[fm H1 _ _ _ N4]at bj;split at bj
     ·rename_i an;subst an;have da:some (w.heap.size+1)=some w.heap.size:=by
       rw[<-bU];simp[ip,c6]
      have:=Option.some.inj da;omega
     ·rename_i an;have ft:(aF H1 o).live=true:=by cases cR:aF H1 o<;>rw[cR]at bj<;>first |rfl |(cases bj)
      rw[vH o ft]at bU;have:=sg g1.rel bj bU;omega
    ·obtain ⟨o,bj,bU⟩:=aa;have:=sg g1.rel bj bU;omega
   have arb:w'.heap[w.heap.size]? =some (.deferred (some [])):=(aY.blocks _ (by omega) ab6).trans ara;have arc:jv.heap[w.heap.size]? =some (.deferred (some [])):=(acs.blocks _ (by omega)).trans arb;have asp: ¬ir ι' (bM eg st.heap.length .gone) w.heap.size:=by
    intro h;have a1:=aY.size;rcases (aY.trans Q1).own _ h with aa |aa
    ·omega
    ·exact ab6 aa
   have b0:=bV.defers.1;obtain ⟨ms,cZ,cr,ey⟩:=bV.defers.2 bZ.2;have hmarks:Marks nt jv (ir ι' (bM eg st.heap.length .gone)) ([u4 w.heap.size]++a.defers):=by
    have b1:=(bV.defers.step xS).1;refine ⟨b1,fun _=>⟨w.heap.size::ms,by simp[cZ],?_,fun r aA=> ?_⟩⟩
    ·rw[List.nodup_cons];refine ⟨fun hm=> ?_,cr⟩;have:=(Array.getElem?_eq_some_iff.1 (ey _ hm).2.1).1;omega
    ·rcases List.mem_cons.1 aA with rfl |aA
     ·exact ⟨b0,arc,asp⟩
     ·obtain ⟨a1,k2,b8⟩:=ey r aA;have bb:=(Array.getElem?_eq_some_iff.1 k2).1;exact ⟨a1,(xS.blocks r bb b8).trans k2,fun h=>(xS.own r h).elim (fun aE=>by omega) b8⟩
   have afW:cO φ' ι' jv nt ⟨st.regs,bM eg st.heap.length .gone⟩ {a with defers:=[u4 w.heap.size]++a.defers}:=
    ⟨afN,fun d r ax=>by
     have cp:d≠c1:=fun e=>by rw[e]at ax;rw[ax]at zS;cases zS
     have bY:=bV.regs d r ax;rw[hp cp]at bY ⊢;exact ⟨ae.rel_step xS HC bY.2 bY.1,fun i ab=>HC.live i (bY.2 i ab)⟩,bV.nt,bV.small,hmarks⟩
   have fin:=cB _ jv φ' ι' afW xS (HC.keepM _);refine ⟨nF.pending,jv,zZ,?_⟩;have vT:=fH.2;cases e with
   |nrm=>simp only at vT;rw[vT];exact fin
   |ret=>simp only at vT;rw[vT];exact wpIn_ret fin
   |exit i=>simp only at vT;rw[vT];exact wpIn_exit fin
  ·simp[HM.go]at bz
 ·simp[DT.val]at h
theorem KS {R:bD}: ∀(us:List Nat) (l:List ae),uV R us=some l-> ∀i∈ae.idsL l,∃d r,R.get d=some r/\i∈r.ids
 |[],l,h,i,ab=>by
  simp only[uV,bt]at h;subst h;simp[ae.idsL]at ab
 |d::us,l,h,i,ab=>by
  simp only[uV]at h;split at h
  ·rename_i r aA;obtain ⟨m,hm,rfl⟩:=Option.map_eq_some_iff.1 h;simp only[ae.idsL,List.mem_append]at ab;rcases ab with ab |ab
   ·exact ⟨d,r,aA,ab⟩
   ·exact KS us m hm i ab
  ·cases h
theorem aod [Env] {F:a8} {id:Nat} (e:(Mn F id st).val=some aW) (bV:cO φ ι w nt st a):cO φ ι w nt aW a/\aW.heap=st.heap:=by
 unfold Mn at e;split at e
 ·simp only[DT.val,bt]at e;subst e;exact ⟨bV,rfl⟩
 ·split at e
  ·rename_i f us vs t e7 _ _ _ A B bH ec cM;simp only[DT.val,bt]at e;subst e;refine ⟨⟨bV.heap,fun d r ax=> ?_,bV.nt,bV.small,bV.defers⟩,rfl⟩;have ax:(st.regs.put c1 (.dfr f A B t [])).get d=some r:=ax;rw[bD.get_put]at ax;by_cases kJ:d=c1
   ·subst kJ;simp only[if_true,bt]at ax;subst ax;obtain ⟨⟨xs,aX,aw⟩,-⟩:=bV.regs c1 _ bH;simp only[ae.relT]at aw;rw[oV]at aX ⊢;have Av:xs= #[]:=by cases xs;simpa using aw
    subst Av;refine ⟨⟨[],aX,rfl,fun i x u aw=>by simp at aw⟩,fun i ab=> ?_⟩;simp only[ae.ids,List.mem_append]at ab;rcases ab with ab |ab
    ·obtain ⟨d,r,a1,k2⟩:=KS _ _ ec i ab;exact (bV.regs d r a1).2 i k2
    ·obtain ⟨d,r,a1,k2⟩:=KS _ _ cM i ab;exact (bV.regs d r a1).2 i k2
   ·simp only[kJ,if_false]at ax;exact bV.regs d r ax
  ·simp[DT.val]at e
def ih [Env] (P:Program) (F:a8) (n:Nat):Code->Prop
 | .seq a b=>ih P F n a/\ih P F n b
 | .cond _ a b=>ih P F n a/\ih P F n b
 | .block _ c=>ih P F n c
 | .scope c=>ih P F n c
 | .rangeFunc g ps a b=>(∀Y,F.rfs (GI a b)=some Y->Env.code Y=some ⟨ps.toList,a,b,n⟩)/\ ∀f∈F.its,∃fn,P.funcs[f]? =some fn/\(fn.name== "runtime.NumGoroutine")=false/\fn.body.isNone=false
 |_=>True
theorem dQ [Env] {P:Program} {F:a8} {n:Nat}: ∀(c:Code),eb c=false->ih P F n c
 | .seq a b,h=>by simp only[eb,Bool.or_eq_false_iff]at h;exact ⟨dQ a h.1,dQ b h.2⟩
 | .cond _ a b,h=>by simp only[eb,Bool.or_eq_false_iff]at h;exact ⟨dQ a h.1,dQ b h.2⟩
 | .block _ c,h=>dQ c (by simpa [eb] using h)
 | .scope c,h=>dQ c (by simpa [eb] using h)
 | .rangeFunc ..,h=>by simp[eb]at h
 | .loop _,_=>trivial
 | .skip,_=>trivial | .region ..,_=>trivial | .exit _,_=>trivial | .label _,_=>trivial | .goto _,_=>trivial | .ret,_=>trivial | .refuse _,_=>trivial
theorem l5 [Env] {F:a8} (tab:cA P F.cx) (cE:bL P F.Γ) (hm:P.follows .mixedOrders=true): ∀(c:Code) (k:Nat) (st:bn) (e:dw) (aW:bn) (φ:bw) (ι:Nat->Value) (w:World) (a:Act) (Q:Exit->Act->World->Prop),(e1 F c k st).val=some (e,aW)->
  (∀q∈dF c k,fS P F nt.n q.1 q.2)->fW nt.n c=true->ih P F nt.n c->hf nt c->cO φ ι w nt st a->fC F.m st.heap->
  (∀bd w' φ' ι',cO φ' ι' w' nt aW bd->Step φ ι w st.heap φ' ι' w' aW.heap->gK F.m ι st.heap ι' aW.heap->Q (jA e) bd w')->c.wpIn (ed nt.ro) 0 P Q a w:=by
 intro c
 induction c with
 |skip=>
  intro k st e aW φ ι w a Q h ao aB cy bZ bV lm cB;simp only[e1,DT.val,bt,cw]at h;obtain ⟨rfl,rfl⟩:=h;exact wpIn_skip (cB a w φ ι bV (Step.refl _ _ _ _) (gK.refl _ _ _))
 |region id ops draw=>
  intro k st e aW φ ι w a Q h ao aB cy bZ bV lm cB;simp only[e1]at h;obtain ⟨b9,aa,ad⟩:=DT.val_bind_some h;refine ano tab cE hm aa bV aB (fun h=>bZ.df h) fun bd w' φ' ι' cu sp bG=> ?_
  split at ad
  ·rename_i ks ab1;simp only[DT.val,bt,cw]at ad;obtain ⟨rfl,rfl⟩:=ad;exact cB bd w' φ' ι' ⟨cu.heap,fun d r ax=>cu.regs d r (anJ ax),cu.nt,cu.small,cu.defers⟩ sp (bG.keepM _)
  ·obtain ⟨dC,al,aE⟩:=DT.val_bind_some ad;simp only[DT.val,bt,cw]at aE;obtain ⟨rfl,rfl⟩:=aE;obtain ⟨bj,bU⟩:=aod al cu;exact cB bd w' φ' ι' bj (by rw[bU];exact sp) (by rw[bU];exact bG.keepM _)
 |seq x y hP hQ=>
  intro k st e aW φ ι w a Q h ao aB cy bZ bV lm cB;simp only[e1]at h;obtain ⟨⟨ai,b9⟩,aa,ad⟩:=DT.val_bind_some h;simp only[fW,bB]at aB;refine wpIn_seq (hP k st ai b9 φ ι w a _ aa (fun q aN=>ao q (by simp[dF,aN])) aB.1 cy.1 (bZ.of (fun h=>by simp[eb,h]) (fun h=>by simp[fh,h])) bV lm fun bd w' φ' ι' cu sp bG=> ?_);cases ai with
  |nrm=>
   exact hQ k b9 e aW φ' ι' w' bd Q ad (fun q aN=>ao q (by simp[dF,aN])) aB.2 cy.2 (bZ.of (fun h=>by simp[eb,h]) (fun h=>by simp[fh,h])) cu (bG.live lm) fun a2 c9 dv dz iH nH lz=>cB a2 c9 dv dz iH (sp.trans nH) (bG.trans lz)
  |exit i=>
   simp only[DT.val,bt,cw]at ad;obtain ⟨rfl,rfl⟩:=ad;exact cB bd w' φ' ι' cu sp bG
  |ret=>
   simp only[DT.val,bt,cw]at ad;obtain ⟨rfl,rfl⟩:=ad;exact cB bd w' φ' ι' cu sp bG
 |cond c x y hP hQ=>
  intro k st e aW φ ι w a Q h ao aB cy bZ bV lm cB;simp only[e1]at h;simp only[fW,bB]at aB;split at h
  ·rename_i t aU;have aX:=Kh aU (bV.eval c).1;refine wpIn_cond aX ?_;have key: ∀(fx:bn),cO φ ι w nt fx a->fx.heap=st.heap->(bif t then (e1 F x k fx).val else (e1 F y k fx).val)=some (e,aW)->(if t then x else y).wpIn (ed nt.ro) 0 P Q a w:=by
    intro fx im bC h;rw[<-bC]at lm cB;cases t
    ·simp only[aM]at h;simp only[Bool.false_eq_true,if_false];exact hQ k fx e aW φ ι w a Q h (fun q aN=>ao q (by simp[dF,aN])) aB.2 cy.2 (bZ.of (fun h=>by simp[eb,h]) (fun h=>by simp[fh,h])) im lm cB
    ·simp only[az]at h;simp only[if_true];exact hP k fx e aW φ ι w a Q h (fun q aN=>ao q (by simp[dF,aN])) aB.1 cy.1 (bZ.of (fun h=>by simp[eb,h]) (fun h=>by simp[fh,h])) im lm cB
   split at h
   ·rename_i d;have bo:st.regs.get d=some (.dat .bool t):=by
     simp only[gB]at aU;cases ph:Nat.beq d c1 with
     |true=>simp[ph,kS]at aU
     |false=>
     simp only[ph,aM]at aU;cases ax:st.regs.get d with
     |none=>rw[ax]at aU;simp[kS]at aU
     |some r=>
      rw[ax]at aU;have:=Ca (R:=st.regs) (d:=d) (b:=t) (by rw[ax];exact aU);rw[ax]at this;exact this
    have im:cO φ ι w nt ⟨refine st.regs d t,st.heap⟩ a:=bV.regs_eq (rH bo);refine key ⟨refine st.regs d t,st.heap⟩ im rfl ?_;cases t
    ·simp only[DT.val,aM]at h ⊢;exact h
    ·simp only[DT.val,az]at h ⊢;exact h
   ·exact key st bV rfl (by simpa only[DT.val] using h)
  ·simp[DT.val]at h
 |block id c aO=>
  intro k st e aW φ ι w a Q h ao aB cy bZ bV lm cB;simp only[e1]at h;obtain ⟨⟨ai,b9⟩,aa,ad⟩:=DT.val_bind_some h;refine wpIn_block (aO id st ai b9 φ ι w a _ aa (fun q aN=>ao q (by simpa [dF] using aN)) aB cy (bZ.of (fun h=>by simpa [eb] using h) (fun h=>by simpa [fh] using h)) bV lm fun bd w' φ' ι' cu sp bG=> ?_);cases ai with
  |nrm=>
   simp only[DT.val,bt,cw]at ad;obtain ⟨rfl,rfl⟩:=ad;exact cB bd w' φ' ι' cu sp bG
  |exit i=>
   simp only at ad;cases ag:Nat.beq i id
   ·simp only[ag,aM,DT.val,bt,cw]at ad;obtain ⟨rfl,rfl⟩:=ad;have cp: ¬i=id:=fun h=>by subst h;simp at ag
    simp only[jA,Exit.inBlock,if_neg cp];exact cB bd w' φ' ι' cu sp bG
   ·simp only[ag,az,DT.val,bt,cw]at ad;obtain ⟨rfl,rfl⟩:=ad;have:i=id:=by simpa using ag
    simp only[jA,Exit.inBlock,if_pos this];exact cB bd w' φ' ι' cu sp bG
  |ret=>
   simp only[DT.val,bt,cw]at ad;obtain ⟨rfl,rfl⟩:=ad;exact cB bd w' φ' ι' cu sp bG
 |scope c aO=>
  intro k st e aW φ ι w a Q h ao aB cy bZ bV lm cB;simp only[e1]at h;refine Yk (aO k st e aW φ ι w a _ h (fun q aN=>ao q (by simpa [dF] using aN)) aB cy (bZ.of (fun h=>by simpa [eb] using h) (fun h=>by simpa [fh] using h)) bV lm fun bd w' φ' ι' cu sp bG=> ?_);have:=cB bd w' φ' ι' cu sp bG;cases e<;>exact this
 |label l=>
  intro k st e aW φ ι w a Q h ao aB cy bZ bV lm cB;simp only[e1,DT.val,bt,cw]at h;obtain ⟨rfl,rfl⟩:=h;exact wpIn_label (cB a w φ ι bV (Step.refl _ _ _ _) (gK.refl _ _ _))
 |loop c aO=>
  intro k st e aW φ ι w a Q h ao aB cy bZ bV lm cB;simp only[e1]at h;exact ao (k,c) (by simp[dF]) nt st e aW φ ι w a Q rfl bZ h bV lm cB
 |exit id=>
  intro k st e aW φ ι w a Q h ao aB cy bZ bV lm cB;simp only[e1,DT.val,bt,cw]at h;obtain ⟨rfl,rfl⟩:=h;exact wpIn_exit (cB a w φ ι bV (Step.refl _ _ _ _) (gK.refl _ _ _))
 |ret=>
  intro k st e aW φ ι w a Q h ao aB cy bZ bV lm cB;simp only[e1,DT.val,bt,cw]at h;obtain ⟨rfl,rfl⟩:=h;exact wpIn_ret (cB a w φ ι bV (Step.refl _ _ _ _) (gK.refl _ _ _))
 |rangeFunc g ps x y=>
  intro k st e aW φ ι w a Q h ao aB cy bZ bV lm cB;simp only[e1]at h;split at h
  ·rename_i Y ND;exact agE tab cE (cy.1 Y ND) cy.2 h (bZ.rf rfl) bV lm cB
  ·simp[DT.val]at h
 |_=>
  intro k st e aW φ ι w a Q h;simp[e1,DT.val]at h
def bq.fin (L:bq):L.Out->dw×bn
 | .inl x=>(L.x,L.X.enc x)| .inr y=>(L.y,L.Y.enc y)
theorem dw.is_eq {e f:dw} (h:e.is f=true):e=f:=by
 cases e<;>cases f<;>simp only[dw.is,reduceCtorEq]at h<;>first |rfl |(have:=Nat.eq_of_beq_eq_true h;subst this;rfl)|cases h
theorem bq.out_sound [Env] {L:bq} {m:Nat} {e:dw} {st:bn} {o:L.Out} (h:(L.out m e st).val=some o) (bV:cO φ ι w nt st a) (lm:fC m st.heap):
  e=(L.fin o).1/\ ∃φ' ι',cO φ' ι' w nt (L.fin o).2 a/\Step φ ι w st.heap φ' ι' w (L.fin o).2.heap/\gK m ι st.heap ι' (L.fin o).2.heap:=by
 unfold bq.out at h;cases aa:e.is L.x
 ·simp only[aa,aM]at h;cases ad:e.is L.y
  ·simp[ad,DT.val]at h
  ·simp only[ad,az]at h;obtain ⟨y,ai,aq⟩:=DT.val_bind_some h;simp only[DT.val,bt]at aq;subst aq;obtain ⟨φ',ι',a1,k2,b8,-,-⟩:=j9 ai bV lm;exact ⟨dw.is_eq ad,φ',ι',a1,k2,b8⟩
 ·simp only[aa,az]at h;obtain ⟨x,ai,aq⟩:=DT.val_bind_some h;simp only[DT.val,bt]at aq;subst aq;obtain ⟨φ',ι',a1,k2,b8,-,-⟩:=j9 ai bV lm;exact ⟨dw.is_eq aa,φ',ι',a1,k2,b8⟩
theorem Za {e:dw} {next:Act->World->Prop} {Q:Exit->Act->World->Prop} {a:Act} {w:World} (he:e≠ .nrm):Exit.then next Q (jA e) a w=Q (jA e) a w:=by
 cases e<;>first |rfl |exact absurd rfl he
theorem aoW [Env] {F:a8} (tab:cA P F.cx) (cE:bL P F.Γ) (hm:P.follows .mixedOrders=true) {L:bq} {c:Code} {k:Nat} {n:Nat} {f:L.S.ty.den->Option L.Out} (l3:F.Λ k=L.go f F.m) (ds: ∀q∈dF c k,fS P F n q.1 q.2) (aB:fW n c=true) (cy:ih P F n c)
  (aK: ∀s o,f s=some o-> ∃n,dR (fun s=>(L.body F c k s).val) n s=some o):fS P F n k c:=by
 intro nt st e aW φ ι w a Q aQ bZ h bV lm cB;subst aQ;rw[l3]at h;unfold bq.go at h;obtain ⟨s,ai,aq⟩:=DT.val_bind_some h;obtain ⟨cT,er,a1,k2,b8,dD,gb⟩:=j9 ai bV lm;obtain ⟨o,an,he⟩: ∃o,f s=some o/\(e,aW)=L.fin o:=by
  cases iA:f s with
  |none=>simp[iA,DT.val]at aq
  |some o=>
   refine ⟨o,rfl,?_⟩;cases o with
   |inl x=>simp only[iA,DT.val,bt]at aq;exact aq.symm
   |inr y=>simp only[iA,DT.val,bt]at aq;exact aq.symm
 obtain ⟨n,aQ⟩:=aK s o an;refine wpIn_loop_rounds n ?_;have key: ∀n s φ ι w a,dR (fun s=>(L.body F c k s).val) n s=some o->cO φ ι w nt (L.S.enc s) a->fC F.m (L.S.enc s).heap->
   (∀bd w' φ' ι',cO φ' ι' w' nt (L.fin o).2 bd->Step φ ι w (L.S.enc s).heap φ' ι' w' (L.fin o).2.heap->gK F.m ι (L.S.enc s).heap ι' (L.fin o).2.heap->Q (jA (L.fin o).1) bd w')->Code.roundsIn (ed nt.ro) 0 P c Q n a w:=by
  intro n
  induction n with
  |zero=>intro s φ ι w a h;cases h
  |succ n aO=>
   intro s φ ι w a h bV lm cB;simp only[dR]at h;rw[roundsIn_succ];cases ag:(L.body F c k s).val with
   |none=>simp[ag]at h
   |some r=>
    simp only[ag]at h;have gD:=ag;unfold bq.body at gD;obtain ⟨⟨ai,b9⟩,aa,ad⟩:=DT.val_bind_some gD;refine l5 tab cE hm c k _ ai b9 φ ι w a _ aa ds aB cy (bZ.of (fun h=>h) (fun h=>h)) bV lm fun bd w' φ' ι' cu sp bG=> ?_
    by_cases lk:ai=.nrm
    ·subst lk;obtain ⟨t,al,aE⟩:=DT.val_bind_some ad;simp only[DT.val,bt]at aE;subst aE;simp only at h;obtain ⟨dv,dz,cZ,cr,ey,ki,oj⟩:=j9 al cu (bG.live lm);exact aO t dv dz w' bd h cZ (ey.live (bG.live lm)) fun a2 c9 k0 kZ Bh PD O2=>cB a2 c9 k0 kZ Bh ((sp.trans cr).trans PD) ((bG.trans ey).trans O2)
    ·rw[Za lk];have aZ:((L.out F.m ai b9).bind fun o=>DT.leaf (Sum.inr (α:=L.S.ty.den) o)).val=some r:=by
      cases ai with
      |nrm=>exact absurd rfl lk
      |exit i=>exact ad
      |ret=>exact ad
     obtain ⟨ib,al,aE⟩:=DT.val_bind_some aZ;simp only[DT.val,bt]at aE;subst aE;simp only[bt]at h;subst h;obtain ⟨kK,dv,dz,cZ,cr,ey⟩:=bq.out_sound al cu (bG.live lm);rw[kK];exact cB bd w' dv dz cZ (sp.trans cr) (bG.trans ey)
 have qW:e=(L.fin o).1/\aW=(L.fin o).2:=by rw[<-he];exact ⟨rfl,rfl⟩
 refine key n s cT er w a aQ a1 (b8.live lm) fun bd w' φ' ι' cu sp bG=> ?_
 have:=cB bd w' φ' ι';rw[qW.1,qW.2]at this;exact this cu (k2.trans sp) (b8.trans bG)
end
open Go.RowKit
section
variable {P:Program} {cx:bS} {φ:bw} {ι:Nat->Value} {w:World} {H:List aG} {n:Nat} {aC:List aG} {aJ:Nat}
theorem mf {n base:Nat} {ro:Option Nat} {nm:Bool} {w:World} {Own:Nat->Prop} (h:base<=w.heap.size):Marks ⟨n,base,[],ro,nm⟩ w Own []:=⟨h,fun _=>⟨[],rfl,List.nodup_nil,by simp⟩⟩
theorem u1 {f:FuncId} {fn:Func} {c:Code} {args:Array Value} {w:World} {R:Ending->World->Prop} (aK:P.funcs[f]? =some fn) (ag:fn.body=some c)
  (h:c.wpIn (ed none) 0 P (bodyPostM (ed none) 0 P fn R) {tmps:=args++Array.replicate (fn.ntmps-args.size) undef,defers:=[]} w):Calls P f args w R:=
 (callsIn_wide (n:=0)).1 (callsIn_of_wp_marks aK ag trivial h rfl)
structure CN [Env] (φ:bw) (ι:Nat->Value) (w:World) (st:bn) (a:Act):Prop where
 heap:bR φ ι w st.heap
 regs: ∀d r,d≠c1->st.regs.get d=some r->r.rel φ ι w (a.tmps.getD d undef)/\ ∀i∈r.ids,(aF st.heap i).live=true
theorem cO.rr [Env] {nt:hV} {st:bn} {a:Act} (s:cO φ ι w nt st a):CN φ ι w st a:=⟨s.heap,fun d r cp h=>by have:=s.regs d r h;rwa [hp cp]at this⟩
theorem BR [Env] {fn:Func} {e:dw} {R:Ending->World->Prop} {n:Nat} {φ':bw} {ι':Nat->Value} {w':World} {b9:bn} {bd:Act} (he:e=.nrm\/e=.ret) (bV:cO φ' ι' w' ⟨n,w.heap.size,[],none,false⟩ b9 bd) (sp:Step φ ι w H φ' ι' w' b9.heap)
  (K: ∀c9,CN φ' ι' c9 b9 bd->Step φ ι w H φ' ι' c9 b9.heap-> ∃v,(results fn bd.tmps).run P c9=.ok v c9/\R (.returned v) c9):bodyPostM (ed none) 0 P fn R (jA e) bd w':=by
 have key: ∀(ms:List Nat) (w':World),CN φ' ι' w' b9 bd->Step φ ι w H φ' ι' w' b9.heap->ms.Nodup->(∀r∈ms,w.heap.size<=r/\w'.heap[r]? =some (.deferred (some []))/\ ¬ir ι' b9.heap r)->
   LeavesInM (ed none) 0 P fn bd.tmps R (ms.map u4) .returning w':=by
  intro ms
  induction ms with
  |nil=>intro w' bV sp _ _;exact K w' bV sp
  |cons r ms aO=>
   intro w' bV sp aQ aA;obtain ⟨a1,k2,b8⟩:=aA r (by simp);refine ⟨by simp,.inl ⟨r,w'.putObj r (.deferred none),rfl,run_takeDeferred k2,aO _ ?_ ?_ (List.nodup_cons.1 aQ).2 fun s ar=> ?_⟩⟩
   ·have cp: ∀b k,φ' b k->b≠r:=by
     rintro b k ag rfl;obtain ⟨v,aX⟩:=bV.heap.phi b k ag;simp[World.cell?,k2]at aX
    have eZ: ∀b k,φ' b k->(w'.putObj r (.deferred none)).cell? ⟨b,k,none⟩=w'.cell? ⟨b,k,none⟩:=fun b k ag=>(hH.putObj w' r _).cell (cp b k ag)
    refine ⟨bV.heap.update (fun _=>False) (fun _ _=>rfl) (fun _ _=>rfl) (fun _ h=>h) (fun _ h=>h.elim) (fun _ h=>h.elim) (fun i b _ an ag=>World.putObj_heap_other (fun e=>b8 ⟨i,an,e▸ag⟩)) eZ (fun _ _ _ h=>h.elim),fun d x cp ax=> ?_⟩;exact ⟨ae.rel_mono (fun _ _ h=>h) eZ x _ (fun _ _=>rfl) (bV.regs d x cp ax).1,(bV.regs d x cp ax).2⟩
   ·have cp: ∀b k,φ' b k->b≠r:=by
     rintro b k ag rfl;obtain ⟨v,aX⟩:=bV.heap.phi b k ag;simp[World.cell?,k2]at aX
    exact ⟨sp.phi,fun b k ag=>((hH.putObj w' r _).cell (cp b k (sp.phi b k ag))).trans (sp.cells b k ag),sp.newphi,by simpa [World.putObj] using sp.size,sp.os,sp.tape,sp.output,fun b ag an=>(World.putObj_heap_other (by omega)).trans (sp.blocks b ag an),sp.own⟩
   ·obtain ⟨bj,bU,da⟩:=aA s (by simp[ar]);have Ow:s≠r:=by rintro rfl;exact (List.nodup_cons.1 aQ).1 ar
    exact ⟨bj,(World.putObj_heap_other Ow).trans bU,da⟩
 have b0:=bV.defers.1;obtain ⟨ms,cZ,cr,ey⟩:=bV.defers.2 rfl;have cZ:bd.defers=ms.map u4:=by simpa using cZ
 have bY:LeavesInM (ed none) 0 P fn bd.tmps R bd.defers .returning w':=by
  rw[cZ];exact key ms w' bV.rr sp cr ey
 rcases he with rfl |rfl
 ·exact bY
 ·exact bY
def uW (a:Act):ResultVar->Sem Value
 | .tmp t=>pure (a.tmps.getD t undef)
 | .cell c t=>do loadVar t (<-asAddr (a.tmps.getD c undef))
theorem tN [Env] (tab:cA P cx) {R:bD} {a:Act}: ∀(l:List ResultVar) (j:Nat) (R':bD) (H:List aG) (n:Nat) (aC:List aG) (aJ:Nat),(kn cx R j l).go H n=some (R',aC,aJ)->bR φ ι w H->(∀d r,d≠c1->R.get d=some r->r.rel φ ι w (a.tmps.getD d undef)/\ ∀i∈r.ids,(aF H i).live=true)->
  aC=H/\aJ=n/\ ∃vs:List Value,(l.mapM (uW a)).run P w=.ok vs w/\vs.length=l.length/\R'.map (·.1)=List.range' j l.length/\
   ∀(i:Nat) (x:Nat×ae),R'[i]? =some x-> ∃v,vs[i]? =some v/\x.2.rel φ ι w v/\ ∀k∈x.2.ids,(aF H k).live=true
 |[],j,R',H,n,aC,aJ,e,h,aA=>by
  simp only[kn]at e;obtain ⟨rfl,rfl,rfl⟩:=go_ret e;exact ⟨rfl,rfl,[],by simp,rfl,rfl,fun i x aw=>by simp at aw⟩
 |v::l,j,R',H,n,aC,aJ,e,h,aA=>by
  simp only[kn]at e;obtain ⟨r,H1,cC,ai,aq⟩:=HM.go_bind_some e;obtain ⟨eJ,eg,dk,bc,bz⟩:=HM.go_bind_some aq;obtain ⟨rfl,rfl,rfl⟩:=go_ret bz;have Om: ∀t,(gB R (.tmp t)).rel φ ι w (a.tmps.getD t undef)/\ ∀i∈(gB R (.tmp t)).ids,(aF H i).live=true:=by
   intro t;simp only[gB];cases ag:Nat.beq t c1 with
   |true=>exact ⟨trivial,by simp[ae.ids]⟩
   |false=>
    simp only[aM];cases aU:R.get t with
    |none=>exact ⟨trivial,by simp[ae.ids]⟩
    |some x=>exact aA t x (fun e=>by subst e;simp at ag) aU
  have q:H1=H/\cC=n/\ ∃u,(uW a v).run P w=.ok u w/\r.rel φ ι w u/\ ∀i∈r.ids,(aF H i).live=true:=by
   cases v with
   |tmp t=>
    obtain ⟨rfl,rfl,rfl⟩:=go_ret ai;exact ⟨rfl,rfl,_,by simp[uW],(Om t).1,(Om t).2⟩
   |cell c t=>
    obtain ⟨bj,bU,u,-,da,c8,fk⟩:=XB tab ai h (Om c).1;exact ⟨bj,bU,u,da,c8,fk⟩
  obtain ⟨bj,bU,u,hu,Ou,asg⟩:=q;subst bj bU;obtain ⟨bj,bU,us,kO,hlen,Fu,eY⟩:=tN tab l (j+1) eJ H1 cC _ _ bc h aA;refine ⟨bj,bU,u::us,?_,by simp[hlen],by simp[Fu,List.range'_succ],fun i x aw=> ?_⟩
  ·rw[List.mapM_cons];simp only[Sem.run_bind,hu,Result.andThen_ok,kO,Sem.run_pure]
  ·cases i with
   |zero=>
    obtain rfl:(j,r)=x:=by simpa using aw
    exact ⟨u,rfl,Ou,asg⟩
   |succ i=>
    obtain ⟨v,aa,ad⟩:=eY i x (by simpa using aw);exact ⟨v,by simpa using aa,ad⟩
theorem tP {fn:Func} {a:Act} {vs:List Value} (h:(fn.results.toList.mapM (uW a)).run P w=.ok vs w):(results fn a.tmps).run P w=.ok (if h:vs.toArray.size=1 then vs.toArray[0] else .tuple vs.toArray) w:=by
 have hm:(fn.results.mapM (uW a)).run P w=.ok vs.toArray w:=by
  rw[Array.mapM_eq_mapM_toList];rw[<-bind_pure_comp];simp only[Sem.run_bind,h,Result.andThen_ok,Sem.run_pure]
 have he:results fn a.tmps=(do let vs<-fn.results.mapM (uW a);pure (if h:vs.size=1 then vs[0] else .tuple vs)):=rfl;rw[he];simp only[Sem.run_bind,hm,Result.andThen_ok,Sem.run_pure]
theorem ZK: ∀(R:bD) (i k:Nat) (x:Nat×ae),R.map (·.1)=List.range' i R.length->R[k]? =some x->x.1=i+k/\R.get (i+k)=some x.2
 |[],i,k,x,av,aw=>by simp at aw
 |(d,r)::R,i,k,x,av,aw=>by
  simp only[List.map_cons,List.length_cons,List.range'_succ,List.cons.injEq]at av;obtain ⟨rfl,av⟩:=av;cases k with
  |zero=>
   obtain rfl:(d,r)=x:=by simpa using aw
   refine ⟨rfl,?_⟩;simp[bD.get]
  |succ k=>
   have aO:=ZK R (d+1) k x av (by simpa using aw);refine ⟨by omega,?_⟩;have:Nat.beq (d+(k+1)) d=false:=u0 (by omega);simp only[bD.get,this,aM];rw[show d+(k+1)=d+1+k by omega];exact aO.2
theorem lA: ∀(R:bD) (i d:Nat) (r:ae),R.map (·.1)=List.range' i R.length->R.get d=some r-> ∃k,d=i+k/\R[k]? =some (d,r)
 |[],i,d,r,av,aw=>by simp[bD.get]at aw
 |(e,x)::R,i,d,r,av,aw=>by
  simp only[List.map_cons,List.length_cons,List.range'_succ,List.cons.injEq]at av;obtain ⟨rfl,av⟩:=av;simp only[bD.get]at aw;cases ag:Nat.beq d e
  ·simp only[ag,aM]at aw;obtain ⟨k,aa,ad⟩:=lA R (e+1) d r av aw;exact ⟨k+1,by omega,by simpa using ad⟩
  ·simp only[ag,az,bt]at aw;have:d=e:=by simpa using ag
   subst this aw;exact ⟨0,rfl,rfl⟩
theorem uF {R:bD} {a:Act} (av:R.map (·.1)=List.range' 0 R.length) (ar:R.length<=c1) (h: ∀d r,R.get d=some r->r.rel φ ι w (lE a d)/\ ∀i∈r.ids,(aF H i).live=true):k5 φ ι w H R (fun d=>a.tmps.getD d undef):=fun d r ax=>by
 obtain ⟨k,aa,ad⟩:=lA R 0 d r av ax;have bb:=(List.getElem?_eq_some_iff.1 ad).1;have:=h d r ax
 rwa [hp (by omega)]at this
theorem Yb: ∀(l:List ae) (vs:List Value),l.length=vs.length->(∀(i:Nat) x v,l[i]? =some x->vs[i]? =some v->x.rel φ ι w v)->ae.relT φ ι w l vs
 |[],[],_,_=>rfl
 |[],_::_,h,_=>by simp at h
 |_::_,[],h,_=>by simp at h
 |x::l,v::vs,h,k=>⟨v,vs,rfl,k 0 x v rfl rfl,Yb l vs (by simpa using h) fun i y u aa ad=>k (i+1) y u (by simpa using aa) (by simpa using ad)⟩
theorem ahm {l:List ae} {v:Value} (h: ∃vs,v=.tuple vs/\ae.relT φ ι w l vs.toList):(ae.tup l).rel φ ι w v:=h
theorem ZG: ∀(l:List ae) (p:Nat->Prop),(∀x∈l,∀i∈x.ids,p i)-> ∀i∈ae.idsL l,p i
 |[],p,_,i,ab=>by simp[ae.idsL]at ab
 |x::l,p,h,i,ab=>by
  simp only[ae.idsL,List.mem_append]at ab;rcases ab with ab |ab
  ·exact h x (by simp) i ab
  ·exact ZG l p (fun y bf=>h y (by simp[bf])) i ab
theorem so {R:bD} {vs:Array Value} (av:R.map (·.1)=List.range' 0 R.length) (hlen:R.length=vs.size) (aA:k5 φ ι w H R (fun d=>vs.getD d undef)):
  (iK R).rel φ ι w (if h:vs.size=1 then vs[0] else .tuple vs)/\ ∀i∈(iK R).ids,(aF H i).live=true:=by
 have eY: ∀(i:Nat) x,R[i]? =some x->R.get i=some x.2:=fun i x aw=>by
  have:=(ZK R 0 i x av aw).2;simpa using this
 unfold iK;split
 ·rename_i d r;have aa:vs.size=1:=by simpa using hlen.symm
  have ad:r.rel φ ι w (vs.getD 0 undef)/\ ∀i∈r.ids,(aF H i).live=true:=aA 0 r (eY 0 (d,r) rfl);rw[dif_pos aa];have:vs.getD 0 undef=vs[0]:=by simp[Array.getD_eq_getD_getElem?,aa]
  rw[this]at ad;exact ad
 ·rename_i cp;have aa: ¬vs.size=1:=by
   intro h;rw[h]at hlen
   match R,hlen with
   |[(d,r)],_=>exact cp d r rfl
  rw[dif_neg aa];refine ⟨ahm ⟨vs,rfl,Yb _ _ (by simp[hlen]) fun i x v aw aX=> ?_⟩,?_⟩
  ·simp only[List.getElem?_map,Option.map_eq_some_iff]at aw;obtain ⟨y,bf,rfl⟩:=aw;have ad:y.2.rel φ ι w (vs.getD i undef):=(aA i y.2 (eY i y bf)).1;have:vs.getD i undef=v:=by
    have ee:vs[i]? =some v:=by simpa using aX
    simp[Array.getD_eq_getD_getElem?,ee]
   rwa [this]at ad
  ·simp only[ae.ids];refine ZG _ (fun i=>(aF H i).live=true) fun x aw=> ?_
   obtain ⟨y,bf,rfl⟩:=List.mem_map.1 aw;obtain ⟨i,ab⟩:=List.mem_iff_getElem?.1 bf;exact (aA i y.2 (eY i y ab)).2
theorem mD: ∀(l:List ae) (i:Nat),(eW i l).map (·.1)=List.range' i l.length/\(eW i l).length=l.length/\ ∀(k:Nat) (x:Nat×ae),(eW i l)[k]? =some x->l[k]? =some x.2
 |[],i=>⟨rfl,rfl,fun k x h=>by simp[eW]at h⟩
 |r::l,i=>by
  obtain ⟨aa,ad,al⟩:=mD l (i+1);refine ⟨by simp[eW,aa,List.range'_succ],by simp[eW,ad],fun k x h=> ?_⟩;cases k with
  |zero=>
   obtain rfl:(i,r)=x:=by simpa [eW] using h
   rfl
  |succ k=>simpa using al k x (by simpa [eW] using h)
theorem tD: ∀(s:List (Nat×b5)) (l rest:List dM) (R:bD),oE s l=some (R,rest)->R.map (·.1)=s.map (·.1)
 |[],l,rest,R,h=>by
  simp only[oE,bt,cw]at h;obtain ⟨rfl,-⟩:=h;rfl
 |(d,s)::kU,l,rest,R,h=>by
  simp only[oE]at h;split at h
  ·rename_i x eJ aw;obtain ⟨p,aP,ad⟩:=Option.map_eq_some_iff.1 h;simp only[cw]at ad;obtain ⟨rfl,rfl⟩:=ad;simp[tD kU eJ p.2 p.1 aP]
  ·cases h
def lP (fn:Func) (S Z:Shape):Bool:=
 (match fn.body with |some c=>fW fn.ntmps c&& !fh c&&Nat.ble fn.ntmps c1&&Nat.ble fn.results.size c1 |none=>false)&& !(fn.name== "runtime.NumGoroutine")&&Nat.ble S.regs.length fn.ntmps&&decide (Z.regs.map (·.1)=List.range' 0 fn.results.size)
theorem xa: ∀(s:List (Nat×b5)) (R:bD) (l:List dM),hD s R=some l->R.length=s.length
 |[],[],_,_=>rfl
 |[],_::_,_,h=>by simp[hD]at h
 |_::_,[],_,h=>by simp[hD]at h
 |(d,s)::kU,(e,r)::R,l,h=>by
  simp only[hD]at h;cases ag:Nat.beq d e
  ·simp[ag]at h
  ·simp only[ag,az]at h;split at h
   ·rename_i a aR;obtain ⟨b,ag,-⟩:=Option.map_eq_some_iff.1 h;simp[xa kU R b ag]
   ·cases h
theorem ap0 [Env] {F:a8} (tab:cA P F.cx) (cE:bL P F.Γ) (hm:P.follows .mixedOrders=true) {f:FuncId} {fn:Func} {c:Code} {S Z:Shape} (aK:P.funcs[f]? =some fn) (ag:fn.body=some c) (cF:lP fn S Z=true) (ds: ∀q∈dF c 0,fS P F fn.ntmps q.1 q.2) (cy:ih P F fn.ntmps c)
  {args:List ae} (ek:F.m=S.objs.length) {s:S.ty.den} {z:Z.ty.den} (ar:S.dec ⟨eW 0 args,H⟩=some s) (e:(ku F fn S Z s).val=some z):iL P f args H (iK (Z.enc z).regs) (Z.enc z).heap:=by
 have fG:=Shape.dec_enc ar;simp only[lP,ag,bB,Bool.not_eq_true',dd]at cF;obtain ⟨⟨⟨⟨⟨⟨mH,ik⟩,gF⟩,gR⟩,lX⟩,lY⟩,lZ⟩:=cF;have gF:=Nat.le_of_ble_eq_true gF;have gR:=Nat.le_of_ble_eq_true gR;have hn:args.length=S.regs.length/\H.length=S.objs.length:=by
  unfold Shape.dec at ar;simp only at ar;cases aR:hD S.regs (eW 0 args) with
  |none=>simp[aR]at ar
  |some x=>
   cases ag:eX S.objs H with
   |none=>simp[aR,ag]at ar
   |some y=>
    refine ⟨by rw[<-xa _ _ _ aR,(mD args 0).2.1],?_⟩;have: ∀(s:List dn) (R:List aG) (l:List dM),eX s R=some l->R.length=s.length:=by
     intro s
     induction s with
     |nil=>intro R l h;cases R<;>simp[eX]at h ⊢
     |cons a s aO=>
      intro R l h;cases R with
      |nil=>simp[eX]at h
      |cons b R=>
       simp only[eX]at h;split at h
       ·obtain ⟨b,ag,-⟩:=Option.map_eq_some_iff.1 h;simp[aO R b ag]
       ·cases h
    exact this _ _ _ ag
 unfold ku at e;rw[ag]at e;simp only[Option.getD_some]at e;obtain ⟨⟨ai,b9⟩,aa,ad⟩:=DT.val_bind_some e;have al:ai=.nrm\/ai=.ret:=by
  cases ai with
  |nrm=>exact .inl rfl
  |ret=>exact .inr rfl
  |exit i=>simp[DT.val]at ad
 have aE:(((kn F.cx b9.regs 0 fn.results.toList).run b9.heap b9.heap.length .none).bind fun (R,h,_,_)=>Z.take F.m ⟨R,h⟩).val=some z:=by
  rcases al with rfl |rfl<;>exact ad
 obtain ⟨⟨R,aZ,kR,ry⟩,bu,dq⟩:=DT.val_bind_some aE;have ix:=HM.go_run _ _ _ _ _ _ _ _ bu;have jn:(Z.enc z).regs.map (·.1)=List.range' 0 fn.results.size:=by
  obtain ⟨⟨aW,bC,wJ,pp⟩,a1,k2⟩:=DT.val_bind_some dq;simp only[DT.val_ofOpt]at k2;have b8:(Z.enc z).regs.map (·.1)=Z.regs.map (·.1):=by
   unfold Shape.dec at k2;cases aR:hD Z.regs aW.regs with
   |none=>simp[aR]at k2
   |some x=>
    cases ag:eX Z.objs aW.heap with
    |none=>simp[aR,ag]at k2
    |some y=>
     have:=pL _ _ x [] aR;rw[Shape.dec_enc (st:=aW) (by simp only[Shape.dec,aR,ag]at k2 ⊢;exact k2)];exact tD _ _ _ _ this
  rw[b8,lZ]
 refine ⟨⟨fn,aK,lX,by rw[ag];rfl⟩,?_⟩
 ·intro φ ι w vs dy ej eH eu;refine u1 aK ag ?_;have dK:vs.size=args.length:=by
   have: ∀(l:List ae) (vs:List Value),ae.relT φ ι w l vs->vs.length=l.length:=by
    intro l
    induction l with
    |nil=>intro vs h;simp only[ae.relT]at h;simp[h]
    |cons r l aO=>intro vs h;obtain ⟨v,m,rfl,-,h⟩:=h;simp[aO m h]
   simpa using this _ _ eH
  have di:vs.size<=fn.ntmps:=by
   rw[dK,hn.1];exact Nat.le_of_ble_eq_true lY
  have jY:cO φ ι w ⟨fn.ntmps,w.heap.size,[],none,false⟩ (S.enc s) {tmps:=vs++Array.replicate (fn.ntmps-vs.size) undef,defers:=[]}:=by
   rw[fG];refine ⟨dy,fun d r ax=> ?_,by simp;omega,gF,mf (Nat.le_refl _)⟩;obtain ⟨a1,k2,b8⟩:=mD args 0;obtain ⟨k,av,gq⟩:=lA _ 0 d r (by rw[a1,k2]) ax;have fF:d=k:=by omega
   subst fF;have bo:=b8 d (d,r) gq;simp only at bo;obtain ⟨v,aX,hO⟩:=rU eH bo;have ee:vs[d]? =some v:=by simpa using aX
   have kc:d<vs.size:=(Array.getElem?_eq_some_iff.1 ee).1;have:(vs++Array.replicate (fn.ntmps-vs.size) undef).getD d undef=v:=by
    rw[Array.getD_eq_getD_getElem?,Array.getElem?_append_left kc,ee];rfl
   rw[hp (by omega),this];exact ⟨hO,fun i ab=>eu i (rX bo i ab)⟩
  have nr:(S.enc s).heap=H:=by rw[fG]
  have h9:fC F.m (S.enc s).heap:=by
   rw[nr,ek,<-hn.2];exact fun o an=>ej o an
  refine l5 tab cE hm c 0 _ ai b9 φ ι w _ _ aa ds mH cy (hf.fn ik) jY h9 fun bd w' φ' ι' cu sp bG=> ?_
  rw[nr]at sp;refine BR al cu sp fun w' cu sp=> ?_
  have jU:=bG.live h9;obtain ⟨bj,bU,us,da,c8,fk,gv⟩:=tN tab fn.results.toList 0 R b9.heap _ aZ kR ix cu.heap cu.regs;have kF:R.length=us.length:=by
   have:=congrArg List.length fk;simpa [c8] using this
  have iH:cO φ' ι' w' ⟨us.toArray.size,0,[],none,false⟩ ⟨R,aZ⟩ {tmps:=us.toArray,defers:=[]}:=by
   rw[bj];refine ⟨cu.heap,fun d r ax=> ?_,rfl,by rw[List.size_toArray,c8];simpa using gR,mf (Nat.zero_le _)⟩;obtain ⟨k,av,gq⟩:=lA R 0 d r (by rw[fk];congr 1;omega) ax;have fF:d=k:=by omega
   subst fF;obtain ⟨v,aX,hO,ft⟩:=gv d (d,r) gq;have:us.toArray.getD d undef=v:=by simp[Array.getD_eq_getD_getElem?,aX]
   have kc:d<us.length:=(List.getElem?_eq_some_iff.1 aX).1;have Oj:fn.results.toList.length=fn.results.size:=by simp
   rw[hp (by omega)];simp only[this];exact ⟨hO,ft⟩
  obtain ⟨dv,dz,cZ,cr,ey,ki,oj⟩:=j9 dq iH (by rw[bj];exact jU);have gm:(Z.enc z).regs.length=us.toArray.size:=by
   have:=congrArg List.length jn;simp only[List.length_map,List.length_range']at this;rw[this];simp[c8]
  obtain ⟨au,aL⟩:=so (vs:=us.toArray) (R:=(Z.enc z).regs) (by rw[jn];congr 1;simpa [c8] using gm.symm) gm (uF (a:={tmps:=us.toArray,defers:=[]}) (by rw[jn];congr 1;simpa [c8] using gm.symm) (by rw[gm,List.size_toArray,c8];simpa using gR) cZ.regs);have kN:=tP da;refine ⟨_,kN,_,dv,dz,rfl,cZ.heap,?_,?_,au,aL⟩
  ·rw[bj]at cr;exact sp.trans cr
  ·rw[nr]at bG;rw[bj]at ey;have hr:=bG.trans ey;refine ⟨fun o an=> ?_,fun o an=> ?_⟩
   ·have bb:o<F.m:=by rw[ek,<-hn.2];exact fo an
    exact (hr o bb an).1
   ·have bb:o<F.m:=by rw[ek,<-hn.2];exact fo an
    exact (hr o bb an).2
end
open Go.RowKit
def cc [Env] (P:Program) (E:aS):Prop:= ∀args H s z,E.S.dec ⟨eW 0 args,H⟩=some s->E.g s=some z->iL P E.f args H (iK (E.Z.enc z).regs) (E.Z.enc z).heap
def o3 [Env] (P:Program) (E:aS):Prop:= ∀args H s z,E.S.dec ⟨eW 0 args,H⟩=some s->E.g s=some z->uc P E.f args H (iK (E.Z.enc z).regs) (E.Z.enc z).heap
theorem cc.x [Env] {P:Program} {E:aS} (h:cc P E) (aK:hS E.f=false):o3 P E:=fun args H s z aa ad=>(h args H s z aa ad).x aK
theorem XC [Env] {P:Program}: ∀(l:List aS),(∀E∈l,o3 P E)->bL P (gl l)
 |[],_,f,args,H,r,aC,e=>by simp[gl,DT.val]at e
 |E::l,ao,f,args,H,r,aC,e=>by
  have aO:=XC l fun E h5=>ao E (by simp[h5])
  simp only[gl]at e;cases ag:Nat.beq f E.f
  ·simp only[ag,aM]at e;exact aO f args H r aC e
  ·have aK:f=E.f:=by simpa using ag
   simp only[ag,az]at e;split at e
   ·rename_i s ar;unfold aS.run at e;cases bH:E.g s with
    |none=>simp[bH,DT.val]at e
    |some z=>
     simp only[bH,DT.val,bt,cw]at e;obtain ⟨rfl,rfl⟩:=e;rw[aK];exact ao E (by simp) args H s z ar bH
   ·exact aO f args H r aC e
theorem apc [Env] {P:Program} {F:a8} (tab:cA P F.cx) (cE:bL P F.Γ) (hm:P.follows .mixedOrders=true) {E:aS} {fn:Func} {c:Code} (aK:P.funcs[E.f]? =some fn) (ag:fn.body=some c) (cF:lP fn E.S E.Z=true) (ds: ∀q∈dF c 0,fS P F fn.ntmps q.1 q.2) (cy:ih P F fn.ntmps c)
  (ek:F.m=E.S.objs.length) (bH: ∀s z,E.g s=some z->(ku F fn E.S E.Z s).val=some z):cc P E:=
 fun args H s z ar bA=>ap0 tab cE hm aK ag cF ds cy ek ar (bH s z bA)
def na:(t:aD)->t.den->List Value->Bool
 | .bool,x,cs=>match cs with |[.bool b]=>b==x |_=>false
 | .int k,x,cs=>match cs with |[.int j n]=>decide (j=k)&&decide (n=x)|_=>false
 | .str,x,cs=>match cs with |[.string s]=>decide (s.data.toList=x)|_=>false
 | .opq,_,_=>false
 | .unit,_,cs=>match cs with |[]=>true |_=>false
 | .list _,x,cs=>match x,cs with |[],[.slice _ 0 _]=>true |_,_=>false
 | .pair a b,x,cs=>na a x.1 (cs.take a.size)&&na b x.2 (cs.drop a.size)
theorem Dg {φ:bw} {w:World}: ∀(t:aD) (x:t.den) (cs:List Value),na t x cs=true->bh φ w t x cs
 | .bool,x,cs,h=>by
  unfold na at h;split at h
  ·rename_i b;obtain rfl:b=x:=by simpa using h
   rfl
  ·cases h
 | .int k,x,cs,h=>by
  unfold na at h;split at h
  ·rename_i j n;simp only[bB,dd]at h;obtain ⟨aa,ad⟩:=h;obtain rfl:n=x:=ad;subst aa;rfl
  ·cases h
 | .str,x,cs,h=>by
  unfold na at h;split at h
  ·rename_i s;obtain rfl:s.data.toList=x:=of_decide_eq_true h;show [Value.string s]=[Value.string ⟨⟨s.data.toList⟩⟩];congr 1
  ·cases h
 | .opq,_,_,h=>by cases h
 | .unit,_,cs,h=>by
  unfold na at h;split at h
  ·rfl
  ·cases h
 | .list t,x,cs,h=>by
  have key: ∀(x:List t.den),x=[]-> ∀A c,bh φ w (.list t) x [.slice A 0 c]:=fun x aw A c=>by subst aw;exact ⟨A,0,c,rfl,rfl,Nat.zero_le _,.inl rfl⟩
  unfold na at h;split at h
  ·rename_i aw bf;exact key _ rfl _ _
  ·cases h
 | .pair a b,x,cs,h=>by
  simp only[na,bB]at h;exact ⟨cs.take a.size,cs.drop a.size,(List.take_append_drop _ _).symm,Dg a _ _ h.1,Dg b _ _ h.2⟩
def ae.cells0:ae->Nat
 | .agg l=>go l
 | .dat t _=>t.size
 |_=>1
where
 go:List ae->Nat
  |[]=>0
  |r::l=>r.cells0+go l
def aaz:ae->Bool
 | .agg _=>true | .dat t _=>t.isAgg |_=>false
mutual
def hq:ae->Value->Bool
 | .dat t x,v=>na t x v.cells.toList&&(iD v==t.isAgg)
 | .nils _ _,v=>match v with | .slice none 0 0=>true |_=>false
 | .nilI,v=>match v with | .nilIface=>true |_=>false
 | .nilF,v=>match v with | .nilFunc=>true |_=>false
 | .agg l,v=>match v with | .agg cs=>uP l cs.toList |_=>false
 |_,_=>false
def uP:List ae->List Value->Bool
 |[],cs=>match cs with |[]=>true |_=>false
 |r::l,cs=>(bif aaz r then hq r (.agg (cs.take r.cells0).toArray)&&uP l (cs.drop r.cells0) else match cs with |v::cs=>hq r v&& !iD v&&uP l cs |[]=>false)
end
mutual
theorem Hy {φ:bw} {ι:Nat->Value} {w:World}: ∀(r:ae) (v:Value),hq r v=true->r.rel φ ι w v/\r.ids=[]
 | .dat t x,v,h=>by
  simp only[hq,bB,beq_iff_eq]at h;exact ⟨gC ⟨Dg t x _ h.1,h.2⟩,rfl⟩
 | .nils e t,v,h=>by
  unfold hq at h;split at h
  ·exact ⟨rfl,rfl⟩
  ·cases h
 | .agg l,v,h=>by
  unfold hq at h;split at h
  ·rename_i cs;obtain ⟨aa,ad⟩:=Jc l cs.toList h;exact ⟨Ed ⟨cs,rfl,aa⟩,ad⟩
  ·cases h
 | .undef,_,h=>by simp[hq]at h
 | .clip ..,_,h=>by simp[hq]at h
 | .nilv,_,h=>by simp[hq]at h
 | .own ..,_,h=>by simp[hq]at h
 | .view ..,_,h=>by simp[hq]at h
 | .ptr ..,_,h=>by simp[hq]at h
 | .fptr ..,_,h=>by simp[hq]at h
 | .tup ..,_,h=>by simp[hq]at h
 | .fn ..,_,h=>by simp[hq]at h
 | .iface ..,_,h=>by simp[hq]at h
 | .nilI,v,h=>by
  unfold hq at h;split at h
  ·exact ⟨rfl,rfl⟩
  ·cases h
 | .nilF,v,h=>by
  unfold hq at h;split at h
  ·exact ⟨rfl,rfl⟩
  ·cases h
 | .nilP,_,h=>by simp[hq]at h
 | .atl _,_,h=>by simp[hq]at h
 | .lim ..,_,h=>by simp[hq]at h
 | .yld ..,_,h=>by simp[hq]at h
 | .gp ..,_,h=>by simp[hq]at h
 | .dfr ..,_,h=>by simp[hq]at h
theorem Jc {φ:bw} {ι:Nat->Value} {w:World}: ∀(l:List ae) (cs:List Value),uP l cs=true->ae.relL φ ι w l cs/\ae.idsL l=[]
 |[],cs,h=>by
  unfold uP at h;split at h
  ·exact ⟨rfl,rfl⟩
  ·cases h
 |r::l,cs,h=>by
  unfold uP at h;cases aR:aaz r
  ·simp only[aR,aM]at h;split at h
   ·rename_i v aaZ;simp only[bB,Bool.not_eq_true']at h;obtain ⟨aa,ad⟩:=Hy (φ:=φ) (ι:=ι) (w:=w) r v h.1.1;obtain ⟨al,aE⟩:=Jc (φ:=φ) (ι:=ι) (w:=w) l aaZ h.2;exact ⟨⟨v,aaZ,by rw[pJ h.1.2];rfl,aa,al⟩,by simp[ae.idsL,ad,aE]⟩
   ·cases h
  ·simp only[aR,az,bB]at h;obtain ⟨aa,ad⟩:=Hy (φ:=φ) (ι:=ι) (w:=w) r _ h.1;obtain ⟨al,aE⟩:=Jc (φ:=φ) (ι:=ι) (w:=w) l _ h.2;exact ⟨⟨_,_,(List.take_append_drop _ _).symm,aa,al⟩,by simp[ae.idsL,ad,aE]⟩
end
def Ek (P:Program) (cx:bS) (T:TypeId) (i:e5):Bool:=match P.info? T with
 |some info=>Nat.beq info.size i.ty.size&&(match cx.zeroRV 20 T with
  |some r=>(match info.zero with
   |some z=>Nat.beq z.cells.size i.ty.size&&(iD z==i.ty.isAgg)&&r.fits i.ty&&hq r z
   |none=>false)
  |none=>true)
 |none=>false
def DH (cx:bS) (ty:aD) (f:Nat) (U:TypeId) (off:Nat):Bool:=Nat.beq off (ty.offs f)&&(match cx.ti U with
 |some j=>decide (ty.nth f=some j.ty)&&Nat.blt 0 j.ty.size
 |none=>false)
def ys (cx:bS) (ty:aD) (fs:Array Field):Nat->List TypeId->Bool
 |_,[]=>true
 |f,U::l=>(match fs[f]? with
  |some fd=>Nat.beq fd.type U&&DH cx ty f U fd.offset
  |none=>false)&&ys cx ty fs (f+1) l
def yG (cx:bS) (ty:aD) (e:TypeId) (size:Nat):Nat->List TypeId->Bool
 |_,[]=>true
 |f,U::l=>Nat.beq U e&&DH cx ty f U (f*size)&&yG cx ty e size (f+1) l
def LX (P:Program) (e:TypeId) (t:aD) (bytes:Nat):Bool:=match P.info? e with
 |some cW=>Nat.beq cW.size t.size&&Nat.beq cW.bytes bytes&&Nat.blt 0 bytes&&Nat.blt 0 t.size&&(match cW.zero with
  |some z=>Nat.beq z.cells.toList.length t.size&&na t t.zero z.cells.toList
  |none=>false)
 |none=>false
def D3 (P:Program) (cx:bS) (T:TypeId) (i:e5):Bool:=match i.ty with
 | .bool=>match P.underlying T with |some .bool=>true |_=>false
 | .int k=>match P.underlying T with |some (.int j)=>decide (j=k)|_=>false
 | .str=>match P.underlying T with |some .string=>true |_=>false
 | .list t=>(match P.underlying T with |some (.slice e)=>Nat.beq e i.elem |_=>false)&&LX P i.elem t i.bytes&&(match cx.ti i.elem with
  |some u=>decide (u.ty=t)
  |none=>false)
 | .opq=>match P.underlying T with
  |some (.array _ _)=>false
  |some (.struct _)=>false
  |some _=>true
  |none=>false
 |ty=>bif i.arr then (match P.underlying T with
   |some (.array n e)=>Nat.beq i.fields.length n&&(match P.info? e with
    |some cW=>yG cx ty e cW.size 0 i.fields
    |none=>false)
   |_=>false)
  else (match P.underlying T with
   |some (.struct fs)=>Nat.beq fs.size i.fields.length&&ys cx ty fs 0 i.fields
   |_=>false)
section
variable {P:Program} {cx:bS} {T:TypeId} {i:e5}
theorem Xd (h:Ek P cx T i=true): ∃info,P.info? T=some info/\info.size=i.ty.size/\ ∀r,cx.zeroRV 20 T=some r-> ∃z,info.zero=some z/\z.cells.size=i.ty.size/\iD z=i.ty.isAgg/\r.fits i.ty=true/\r.ids=[]/\ ∀φ ι w,r.rel φ ι w z:=by
 unfold Ek at h;split at h
 ·rename_i info Ab;simp only[bB,Nat.beq_eq]at h;refine ⟨info,Ab,h.1,fun r aA=> ?_⟩;have ad:=h.2;rw[aA]at ad;simp only at ad;split at ad
  ·rename_i z bA;simp only[bB,Nat.beq_eq,beq_iff_eq]at ad;exact ⟨z,bA,ad.1.1.1,ad.1.1.2,ad.1.2,(Hy (φ:=fun _ _=>False) (ι:=fun _=>undef) (w:=default) r z ad.2).2,fun φ ι w=>(Hy r z ad.2).1⟩
  ·cases ad
 ·cases h
theorem Vn {ty:aD} {f:Nat} {U:TypeId} {off:Nat} (h:DH cx ty f U off=true):ma P cx ty f U off:=by
 unfold DH at h;simp only[bB,Nat.beq_eq]at h;obtain ⟨aa,ad⟩:=h;split at ad
 ·rename_i j ay;simp only[bB,dd]at ad;exact ⟨aa,j,ay,ad.1,by simpa using ad.2⟩
 ·cases ad
theorem Vo {ty:aD} {fs:Array Field}: ∀(l:List TypeId) (k:Nat),ys cx ty fs k l=true-> ∀(f:Nat) U,l[f]? =some U-> ∃fd,fs[k+f]? =some fd/\fd.type=U/\ma P cx ty (k+f) U fd.offset
 |[],k,h,f,U,hK=>by simp at hK
 |V::l,k,h,f,U,hK=>by
  simp only[ys,bB]at h;cases f with
  |zero=>
   obtain rfl:V=U:=by simpa using hK
   have aa:=h.1;split at aa
   ·rename_i fd ll;simp only[bB,Nat.beq_eq]at aa;exact ⟨fd,ll,aa.1,Vn aa.2⟩
   ·cases aa
  |succ f=>
   have:=Vo l (k+1) h.2 f U (by simpa using hK)
   rwa [show k+1+f=k+(f+1) by omega]at this
theorem VV {ty:aD} {e:TypeId} {size:Nat}: ∀(l:List TypeId) (k:Nat),yG cx ty e size k l=true-> ∀(f:Nat) U,l[f]? =some U->U=e/\ma P cx ty (k+f) U ((k+f)*size)
 |[],k,h,f,U,hK=>by simp at hK
 |V::l,k,h,f,U,hK=>by
  simp only[yG,bB,Nat.beq_eq]at h;cases f with
  |zero=>
   obtain rfl:V=U:=by simpa using hK
   exact ⟨h.1.1,Vn h.1.2⟩
  |succ f=>
   have:=VV l (k+1) h.2 f U (by simpa using hK)
   rwa [show k+1+f=k+(f+1) by omega]at this
theorem al1 {e:TypeId} {t:aD} {bytes:Nat} (h:LX P e t bytes=true):qK P e t bytes:=by
 unfold LX at h;split at h
 ·rename_i cW np;simp only[bB,Nat.beq_eq]at h;obtain ⟨⟨⟨⟨aa,ad⟩,al⟩,aE⟩,aZ⟩:=h;split at aZ
  ·rename_i z bA;simp only[bB,Nat.beq_eq]at aZ;exact ⟨cW,z,np,aa,ad,by simpa using al,bA,by simpa using aE,aZ.1,fun φ w=>Dg _ _ _ aZ.2⟩
  ·cases aZ
 ·cases h
theorem VU (h:D3 P cx T i=true):jK P cx T i:=by
 have agg: ∀ty:aD,(bif i.arr then (match P.underlying T with
   |some (.array n e)=>Nat.beq i.fields.length n&&(match P.info? e with
    |some cW=>yG cx ty e cW.size 0 i.fields
    |none=>false)
   |_=>false)
  else (match P.underlying T with
   |some (.struct fs)=>Nat.beq fs.size i.fields.length&&ys cx ty fs 0 i.fields
   |_=>false))=true->(i.arr=false/\ ∃fs,P.underlying T=some (.struct fs)/\fs.size=i.fields.length/\ ∀(f:Nat) U,i.fields[f]? =some U-> ∃fd,fs[f]? =some fd/\fd.type=U/\ma P cx ty f U fd.offset)\/
   (i.arr=true/\ ∃n e cW,P.underlying T=some (.array n e)/\i.fields.length=n/\P.info? e=some cW/\ ∀(f:Nat) U,i.fields[f]? =some U->U=e/\ma P cx ty f U (f*cW.size)):=by
  intro ty h;cases aR:i.arr
  ·simp only[aR,aM]at h;split at h
   ·rename_i fs iA;simp only[bB,Nat.beq_eq]at h;refine .inl ⟨rfl,fs,iA,h.1,fun f U hK=> ?_⟩;have:=Vo (P:=P) i.fields 0 h.2 f U hK;simpa using this
   ·cases h
  ·simp only[aR,az]at h;split at h
   ·rename_i n e cp;simp only[bB,Nat.beq_eq]at h;obtain ⟨aa,ad⟩:=h;split at ad
    ·rename_i cW np;refine .inr ⟨rfl,n,e,cW,cp,aa,np,fun f U hK=> ?_⟩;have:=VV (P:=P) i.fields 0 ad f U hK;simpa using this
    ·cases ad
   ·cases h
 unfold D3 at h;unfold jK;cases aU:i.ty with
 |bool=>
  simp only[aU]at h ⊢;split at h
  ·assumption
  ·cases h
 |int k=>
  simp only[aU]at h ⊢;split at h
  ·rename_i j ay;have:j=k:=of_decide_eq_true h;rw[ay,this]
  ·cases h
 |str=>
  simp only[aU]at h ⊢;split at h
  ·assumption
  ·cases h
 |list t=>
  simp only[aU,bB]at h ⊢;obtain ⟨⟨aa,ad⟩,al⟩:=h;refine ⟨?_,al1 ad,?_⟩
  ·split at aa
   ·rename_i e he;rw[he,Nat.eq_of_beq_eq_true aa]
   ·cases aa
  ·split at al
   ·rename_i u hu;exact ⟨u,hu,of_decide_eq_true al⟩
   ·cases al
 |opq=>
  simp only[aU]at h ⊢;split at h
  ·cases h
  ·cases h
  ·rename_i d aa ad ax;exact ⟨d,ax,fun x e fs=>⟨fun h=>aa x e (by rw[h]),fun h=>ad fs (by rw[h])⟩⟩
  ·cases h
 |unit=>
  simp only[aU]at h ⊢;exact agg .unit h
 |pair x y=>
  simp only[aU]at h ⊢;exact agg (.pair x y) h
end
def D6 (P:Program) (T:TypeId) (i:e5):Bool:= !i.nil||(match P.underlying T with |some (.interface _)=>true |_=>false)
def Mk (P:Program) (T:TypeId) (nm:String) (f:Nat):Bool:=match P.info? T with
 |some info=>match info.methods.find? (·.name==nm) with
  |some m=>m.path.isEmpty&&(match m.func with
   |some (g,Gi)=>Nat.beq g f&&(match P.underlying T with
    |some (.pointer _)=>Gi
    |some _=> !Gi
    |none=>false)
   |none=>false)
  |none=>false
 |none=>false
def D7 (P:Program) (T:TypeId) (i:e5):Bool:=i.meths.all fun p=>Mk P T p.1 p.2
theorem VW {P:Program} {T:TypeId} {i:e5} (h:D6 P T i=true):i.nil=true-> ∃ms,P.underlying T=some (.interface ms):=by
 intro aQ;simp only[D6,aQ,du,Bool.false_or]at h;split at h
 ·rename_i ms asl;exact ⟨ms,asl⟩
 ·cases h
theorem anL {P:Program} {T:TypeId} {nm:String} {f:Nat} (h:Mk P T nm f=true):O5 P T nm f:=by
 intro v w;unfold Mk at h;split at h
 ·rename_i info ab;split at h
  ·rename_i m hm;simp only[bB]at h;obtain ⟨aa,ad⟩:=h;split at ad
   ·rename_i g Gi bH;simp only[bB,Nat.beq_eq]at ad;obtain ⟨rfl,al⟩:=ad;have aP:m.path= #[]:=by simpa using aa
    obtain ⟨k,av⟩: ∃k,P.types.size+Made.depth=k+1:=⟨P.types.size+Made.depth-1,by
                                                   have:0<Made.depth:=by decide
                                                   omega⟩
    rw[av];unfold method;simp only[typeInfo,Sem.run_bind,Sem.run_pure,Result.andThen_ok];split at al
    ·rename_i e hu;subst al;simp[typeInfo,ab,hm,aP,follow,bH,receiverAt,run_underlying hu,Place.get]
    ·rename_i d ax hu;have:Gi=false:=by simpa using al
     subst this;cases d<;>first |(exact absurd rfl (ax _))|(simp[typeInfo,ab,hm,aP,follow,bH,receiverAt,run_underlying hu,Place.get])
    ·cases al
   ·cases ad
  ·cases h
 ·cases h
theorem V1 {P:Program} {T:TypeId} {i:e5} (h:D7 P T i=true): ∀nm f,tx i.meths nm=some f->O5 P T nm f:=by
 unfold D7 at h;intro nm f;generalize i.meths=l at h
 induction l with
 |nil=>intro ad;simp[tx]at ad
 |cons p l aO=>
  obtain ⟨n,g⟩:=p;simp only[List.all_cons,bB]at h;intro ad;simp only[tx]at ad;cases ag:n==nm
  ·rw[ag]at ad;exact aO h.2 ad
  ·rw[ag,az]at ad;obtain rfl:=Option.some.inj ad;have:n=nm:=by simpa using ag
   subst this;exact anL h.1
def LG (P:Program) (cx:bS):Bool:=cx.tab.all fun p=>Ek P cx p.1 p.2&&D3 P cx p.1 p.2&& !p.2.cmp&&D6 P p.1 p.2&&D7 P p.1 p.2
theorem aqr {P:Program} {cx:bS} (h:LG P cx=true):cA P cx:=by
 have ds: ∀(l:List (Nat×e5)) T i,bS.ti.go T l=some i->(T,i)∈l:=by
  intro l T i
  induction l with
  |nil=>intro h;simp[bS.ti.go]at h
  |cons p l aO=>
   obtain ⟨U,j⟩:=p;intro h;simp only[bS.ti.go]at h;cases ag:Nat.beq T U
   ·simp only[ag,aM]at h;exact List.mem_cons_of_mem _ (aO h)
   ·simp only[ag,az,bt]at h;have:T=U:=by simpa using ag
    subst this h;simp
 intro T i ab;have hm:=ds cx.tab T i ab;unfold LG at h;rw[List.all_eq_true]at h;have aa:=h _ hm;simp only[bB,Bool.not_eq_true']at aa;exact ⟨Xd aa.1.1.1.1,VU aa.1.1.1.2,fun aB=>(by rw[aa.1.1.2]at aB;cases aB),VW aa.1.2,V1 aa.2⟩
open Go.RowKit
def Told (w:World):bw:=fun b k=> ∃v,w.cell? ⟨b,k,none⟩=some v
def aD.comps:aD->Nat
 | .pair _ b=>b.comps+1 |_=>0
def aD.good (B:aD->Nat):(t:aD)->t.den->Prop
 | .bool,_=>True
 | .int k,x=>(Lit.int k x).wf=true
 | .str,x=>x.length<=reachBytes
 | .opq,_=>False
 | .unit,_=>True
 | .list t,xs=>xs.length*B t<=reachBytes/\ ∀x∈xs,t.good B x
 | .pair a b,x=>a.good B x.1/\b.good B x.2
def aD.small (N:Nat):(t:aD)->t.den->Prop
 | .str,x=>x.length<=N
 | .list t,xs=>xs.length<=N/\ ∀x∈xs,t.small N x
 | .pair a b,x=>a.small N x.1/\b.small N x.2
 |_,_=>True
structure Ig (H:Type) where
 U:DataW H->Nat
 A:List (DataW H)->Nat
 str: ∀s,s.length<=U (.lit (.string s))
 slice: ∀es sp,A es<=U (.slice es sp)
 agg: ∀ps,A ps<=U (.agg ps)
 mem: ∀d l,d∈l->U d<=A l
 len: ∀l,l.length<=A l
def uU (cx:bS) (B:aD->Nat):Nat->TypeId->Bool
 |0,_=>false
 |n+1,T=>match cx.ti T with
  |some i=>(match i.ty with
   | .bool=>true
   | .int _=>true
   | .str=>true
   | .opq=>false
   | .list t=>Nat.beq i.bytes (B t)&&uU cx B n i.elem
   |ty=>ty.chain&&Nat.beq ty.comps i.fields.length&&i.fields.all (uU cx B n))
  |none=>false
theorem aD.nth_comps: ∀(t:aD) (f:Nat) (u:aD),t.nth f=some u->f<t.comps
 | .pair a b,0,u,h=>by simp[aD.comps]
 | .pair a b,f+1,u,h=>by have:=aD.nth_comps b f u h;simp[aD.comps];exact this
 | .bool,f,u,h=>by cases f<;>simp[aD.nth]at h
 | .int _,f,u,h=>by cases f<;>simp[aD.nth]at h
 | .str,f,u,h=>by cases f<;>simp[aD.nth]at h
 | .opq,f,u,h=>by cases f<;>simp[aD.nth]at h
 | .unit,f,u,h=>by cases f<;>simp[aD.nth]at h
 | .list _,f,u,h=>by cases f<;>simp[aD.nth]at h
section
variable {H:Type} {enc:TypeId×Value->H} {P:Program} {cx:bS} {w:World} {base:Nat} {spare:Nat->Bool} {held:Bool} {B:aD->Nat}
theorem KD {M:Prop} {N:Nat}: ∀(t:aD) (cs:List Value),t.chain=true->cs.length=t.size->(∀f u,t.nth f=some u-> ∃y:u.den,bh (Told w) w u y ((cs.drop (t.offs f)).take u.size)/\u.good B y/\(M->u.small N y))-> ∃y:t.den,bh (Told w) w t y cs/\t.good B y/\(M->t.small N y)
 | .unit,cs,_,ao,_=>⟨(),List.eq_nil_of_length_eq_zero (by simpa [aD.size] using ao),trivial,fun _=>trivial⟩
 | .pair a b,cs,aB,ao,h=>by
  obtain ⟨x,aw,gx,eS⟩:=h 0 a rfl;have pk:cs.length=a.size+b.size:=ao;obtain ⟨y,bf,pd,pM⟩:=KD b (cs.drop a.size) aB (by rw[List.length_drop];omega) fun f u hu=>by
   have:=h (f+1) u hu;simp only[aD.offs]at this
   rwa [<-List.drop_drop]at this
  simp only[aD.offs,List.drop_zero]at aw;exact ⟨(x,y),⟨_,_,(List.take_append_drop a.size cs).symm,aw,bf⟩,⟨gx,pd⟩,fun m=>⟨eS m,pM m⟩⟩
 | .bool,_,h,_,_=>by cases h
 | .int _,_,h,_,_=>by cases h
 | .str,_,h,_,_=>by cases h
 | .opq,_,h,_,_=>by cases h
 | .list _,_,h,_,_=>by cases h
theorem A0: ∀(lF:List TypeId) (ei:List (DataW H)) (j:Nat) (t:TypeId) (d:DataW H),(DataW.weightsEach P lF ei).all (· <=reachBytes)=true->lF[j]? =some t->ei[j]? =some d->(d.weights P t).all (· <=reachBytes)=true
 |[],_,j,t,d,_,aU,_=>by simp at aU
 |_::_,[],j,t,d,_,_,ax=>by simp at ax
 |u::lF,e::ei,j,t,d,h,aU,ax=>by
  simp only[DataW.weightsEach,List.all_append,bB]at h;cases j with
  |zero=>
   obtain rfl:u=t:=by simpa using aU
   obtain rfl:e=d:=by simpa using ax
   exact h.1
  |succ j=>exact A0 lF ei j t d h.2 (by simpa using aU) (by simpa using ax)
theorem IC {t:TypeId}: ∀(ei:List (DataW H)) (j:Nat) (d:DataW H),(DataW.weightsAll P t ei).all (· <=reachBytes)=true->ei[j]? =some d->(d.weights P t).all (· <=reachBytes)=true
 |[],j,d,_,ax=>by simp at ax
 |e::ei,j,d,h,ax=>by
  simp only[DataW.weightsAll,List.all_append,bB]at h;cases j with
  |zero=>
   obtain rfl:e=d:=by simpa using ax
   exact h.1
  |succ j=>exact IC ei j d h.2 (by simpa using ax)
theorem apQ {a:Addr} {n:Nat} {c:List Value} (h:w.cells? base a n=some c):c.length=n/\ ∀(k:Nat) (v:Value),c[k]? =some v->w.cell? (a.add k)=some v:=by
 unfold World.cells? at h;split at h
 ·have key: ∀(l:List Nat) (c:List Value),l.mapM (fun i=>w.cell? (a.add i))=some c->c.length=l.length/\ ∀(k:Nat) (v:Value) (i:Nat),c[k]? =some v->l[k]? =some i->w.cell? (a.add i)=some v:=by
   intro l
   induction l with
   |nil=>intro c h;simp at h;subst h;simp
   |cons i l aO=>
    intro c h;rw[List.mapM_cons]at h;simp only[Option.bind_eq_bind,Option.bind_eq_some_iff]at h;obtain ⟨v,aX,c',aB,ad⟩:=h;obtain rfl:v::c'=c:=by simpa using ad
    obtain ⟨al,aE⟩:=aO c' aB;refine ⟨by simp[al],fun k u j av ay=> ?_⟩;cases k with
    |zero=>
     obtain rfl:v=u:=by simpa using av
     obtain rfl:i=j:=by simpa using ay
     exact aX
    |succ k=>exact aE k u j (by simpa using av) (by simpa using ay)
  obtain ⟨aa,ad⟩:=key _ _ h;have ao:c.length=n:=by simpa using aa
  refine ⟨ao,fun k v av=>ad k v k av ?_⟩;have:k<n:=by rw[<-ao];exact (List.getElem?_eq_some_iff.1 av).1
  simp[this]
 ·cases h
theorem Df (tab:cA P cx) {T:TypeId} {i:e5} (h:cx.ti T=some i):P.cellsOf T=i.ty.size:=by
 obtain ⟨info,aa,ad,_⟩:=(tab T i h).info;simp[Program.cellsOf,aa,ad]
theorem Ds (tab:cA P cx) (jI:Ig H) {N:Nat}: ∀(n:Nat) (T:TypeId) (i:e5) (fuel:Nat) (cs:List Value) (x:DataW H×List MemPlace),uU cx B n T=true->cx.ti T=some i->DataW.trod enc P w base spare held fuel T cs=some x->(x.1.weights P T).all (· <=reachBytes)=true->
  ∃y:i.ty.den,bh (Told w) w i.ty y cs/\i.ty.good B y/\(jI.U x.1<=N->i.ty.small N y)
 |0,T,i,fuel,cs,x,aA,_,_,_=>by cases aA
 |n+1,T,i,fuel,cs,x,aA,ab,h,hw=>by
  have agg: ∀ty:aD,ty=i.ty->(ty=.unit\/ ∃a b,ty=.pair a b)->(ty.chain&&Nat.beq ty.comps i.fields.length&&i.fields.all (uU cx B n))=true->
    ((i.arr=false/\ ∃fs,P.underlying T=some (.struct fs)/\fs.size=i.fields.length/\ ∀(f:Nat) U,i.fields[f]? =some U-> ∃fd,fs[f]? =some fd/\fd.type=U/\ma P cx ty f U fd.offset)\/
   (i.arr=true/\ ∃n e cW,P.underlying T=some (.array n e)/\i.fields.length=n/\P.info? e=some cW/\ ∀(f:Nat) U,i.fields[f]? =some U->U=e/\ma P cx ty f U (f*cW.size)))-> ∃y:ty.den,bh (Told w) w ty y cs/\ty.good B y/\(jI.U x.1<=N->ty.small N y):=by
   intro ty dH _ aB ax;simp only[bB,Nat.beq_eq,List.all_eq_true]at aB;obtain ⟨⟨mE,kb⟩,zS⟩:=aB;have di:P.cellsOf T=ty.size:=by rw[Df tab ab,dH]
   rcases ax with ⟨-,fs,hu,iA,aK⟩|⟨-,m,e,cW,hu,hm,np,aK⟩
   ·obtain ⟨xs,k,rfl,rfl,ao,Ax,aw⟩:=DataW.trod_struct hu h;refine KD ty cs mE (ao.trans di) fun f u z8=> ?_
    have bb:=aD.nth_comps ty f u z8;have hK:i.fields[f]? =some i.fields[f]:=List.getElem?_eq_getElem (by omega);obtain ⟨fd,ll,abP,vN,j,ay,aQ,vQ⟩:=aK f _ hK;rw[z8]at aQ;have OC:u=j.ty:=by simpa using aQ
    subst OC;have aa:=aw f fd ll;have kL:f<xs.length:=by omega
    rw[List.getElem?_eq_getElem kL,abP,Df tab ay,vN]at aa;obtain ⟨y,bf,pd,pM⟩:=Ds tab jI n _ j k _ _ (zS _ (List.getElem_mem _)) ay aa (by
     simp only[DataW.weights,hu]at hw;refine A0 _ _ f i.fields[f] _ hw ?_ ?_
     ·simp[ll,abP]
     ·simp[List.getElem?_eq_getElem kL])
    exact ⟨y,bf,pd,fun m=>pM (Nat.le_trans (Nat.le_trans (jI.mem _ _ (List.mem_map.2 ⟨_,List.getElem_mem kL,rfl⟩)) (jI.agg _)) m)⟩
   ·obtain ⟨xs,k,rfl,rfl,ao,Ax,aw⟩:=DataW.trod_array hu h;refine KD ty cs mE (ao.trans di) fun f u z8=> ?_
    have bb:=aD.nth_comps ty f u z8;have hK:i.fields[f]? =some i.fields[f]:=List.getElem?_eq_getElem (by omega);obtain ⟨NB,vN,j,ay,aQ,vQ⟩:=aK f _ hK;rw[z8]at aQ;have OC:u=j.ty:=by simpa using aQ
    subst OC;have aa:=aw f (by omega);have kL:f<xs.length:=by omega
    have NN:P.cellsOf e=j.ty.size:=by rw[<-NB];exact Df tab ay
    have arL:cW.size=P.cellsOf e:=by simp[Program.cellsOf,np]
    rw[List.getElem?_eq_getElem kL]at aa;rw[arL]at vN;rw[vN,NN]at aa;obtain ⟨y,bf,pd,pM⟩:=Ds tab jI n e j k _ _ (by rw[<-NB];exact zS _ (List.getElem_mem _)) (by rw[<-NB];exact ay) aa (by
     simp only[DataW.weights,hu]at hw;exact IC _ f _ hw (by simp[List.getElem?_eq_getElem kL]))
    exact ⟨y,bf,pd,fun m=>pM (Nat.le_trans (Nat.le_trans (jI.mem _ _ (List.mem_map.2 ⟨_,List.getElem_mem kL,rfl⟩)) (jI.agg _)) m)⟩
  have ax:=(tab T i ab).desc;simp only[uU,ab]at aA;unfold jK at ax;cases aU:i.ty with
  |bool=>
   simp only[aU]at ax;obtain ⟨b,rfl,-⟩:=DataW.trod_bool ax h;exact ⟨b,rfl,trivial,fun _=>trivial⟩
  |int k=>
   simp only[aU]at ax;obtain ⟨b,rfl,-,asW⟩:=DataW.trod_int ax h;exact ⟨b,rfl,asW,fun _=>trivial⟩
  |str=>
   simp only[aU]at ax;obtain ⟨s,rfl,rfl,ar⟩:=DataW.trod_string ax h;refine ⟨s.data.toList,rfl,?_,fun m=>Nat.le_trans (jI.str _) m⟩;have hw:(DataW.weights P T (.lit (.string s.data.toList):DataW H)).all (· <=reachBytes)=true:=hw;simp only[DataW.weights,List.all_cons,List.all_nil,Bool.and_true,dd]at hw;exact hw
  |opq=>simp only[aU]at aA;cases aA
  |unit=>
   simp only[aU]at ax aA;exact agg .unit aU.symm (.inl rfl) aA ax
  |pair a b=>
   simp only[aU]at ax aA;exact agg (.pair a b) aU.symm (.inr ⟨a,b,rfl⟩) aA ax
  |list t=>
   simp only[aU]at ax aA;obtain ⟨hu,⟨cW,z,ai,aq,bc,bz,dh,c7,iP,ld⟩,u,At,rfl⟩:=ax;simp only[bB,Nat.beq_eq]at aA;have NN:P.cellsOf i.elem=u.ty.size:=Df tab At;rcases DataW.trod_slice hu h with ⟨rfl,rfl⟩|⟨a,len,cap,mu,rest,k,rfl,rfl,rfl,ag,ao,hm,hlen,fj,-⟩
   ·exact ⟨[],⟨none,0,0,rfl,rfl,Nat.le_refl _,.inl rfl⟩,⟨by simp[reachBytes],by simp⟩,fun _=>⟨Nat.zero_le _,by simp⟩⟩
   ·simp only[DataW.weights,hu,List.all_cons,List.all_append,bB,dd,List.length_map]at hw;obtain ⟨fI,asV,acr⟩:=hw;have zQ:P.bytesOf i.elem=B u.ty:=by simp[Program.bytesOf,ai,bc,aA.1]
    rw[NN]at fj;have build: ∀m,m<=len-> ∃(aT:List u.ty.den) (c:List Value),aT.length=m/\c.length=m*u.ty.size/\cz (bh (Told w) w u.ty) aT c/\(∀j v,c[j]? =some v->w.cell? (a.add j)=some v)/\ ∀y∈aT,u.ty.good B y/\(jI.A (mu.map (·.1))<=N->u.ty.small N y):=by
     intro m
     induction m with
     |zero=>intro _;exact ⟨[],[],rfl,by simp,rfl,by simp,by simp⟩
     |succ m aO=>
      intro Ah;obtain ⟨aT,c,aa,ad,al,aE,aZ⟩:=aO (by omega);have aw:=fj m (by omega);have kL:m<mu.length:=by omega
      rw[List.getElem?_eq_getElem kL]at aw;obtain ⟨a7,mE,aw⟩:=Option.bind_eq_some_iff.1 aw;obtain ⟨y,bf,pd,pM⟩:=Ds tab jI n i.elem u k a7 _ aA.2 At aw (IC _ m _ asV (by simp[List.getElem?_eq_getElem kL]));obtain ⟨g1,g2⟩:=apQ mE;refine ⟨aT++[y],c++a7,by simp[aa],by simp[ad,g1,Nat.add_mul],cz.append aT [y] c a7 al ⟨a7,[],by simp,bf,rfl⟩,fun j v ay=> ?_,fun z bA=> ?_⟩
      ·rcases Nat.lt_or_ge j c.length with h |h
       ·rw[List.getElem?_append_left h]at ay;exact aE j v ay
       ·rw[List.getElem?_append_right h]at ay;have:=g2 _ v ay;have E7:(a.add (m*u.ty.size)).add (j-c.length)=a.add j:=by
         rw[Addr.add_add];congr 1;omega
        rwa [E7]at this
      ·rcases List.mem_append.1 bA with h |h
       ·exact aZ z h
       ·simp at h;subst h;exact ⟨pd,fun hm=>pM (Nat.le_trans (jI.mem _ _ (List.mem_map.2 ⟨_,List.getElem_mem kL,rfl⟩)) hm)⟩
    obtain ⟨aT,c,aa,ad,al,aE,aZ⟩:=build len (Nat.le_refl _);refine ⟨aT,⟨some a,len,cap,rfl,aa,ao,?_⟩,⟨?_,fun y bf=>(aZ y bf).1⟩,fun hm=> ?_⟩
    ·rcases Nat.eq_zero_or_pos len with bY |bY
     ·exact .inl bY
     ·right;have fQ:0<c.length:=by rw[ad];exact Nat.mul_pos bY c7
      have eZ:=aE 0 c[0] (List.getElem?_eq_getElem fQ);obtain ⟨Sw,XP,Y4⟩:=a;have tb:Y4=none:=by
       cases Y4 with
       |none=>rfl
       |some s=>
        exfalso;have ar:((⟨Sw,XP,some s⟩:Addr).add 0).spot=some s:=by unfold Addr.add;split<;>simp_all
        unfold World.cell? at eZ;split at eZ
        ·rw[ar]at eZ;simp at eZ
        ·cases eZ
      subst tb;refine ⟨Sw,XP,c,rfl,fun j v ay=> ?_,al⟩;have:=aE j v ay;rw[ga]at this;exact ⟨⟨v,this⟩,this⟩
    ·rw[aa,<-zQ];exact Nat.le_trans (Nat.mul_le_mul_right _ (by omega)) fI
    ·have ec:=Nat.le_trans (jI.slice _ _) hm;refine ⟨?_,fun y bf=>(aZ y bf).2 ec⟩;have:=Nat.le_trans (jI.len (mu.map (·.1))) ec;rw[List.length_map]at this;omega
end
open Go.RowKit
section
variable {H:Type} {enc:TypeId×Value->H} {P:Program} {cx:bS} {W:World} {base:Nat} {spare:Nat->Bool} {held:Bool} {B:aD->Nat}
theorem anb (tab:cA P cx) {T:TypeId} {i:e5} (ab:cx.ti T=some i) (cp:i.ty≠ .opq) {r:Reach} {b:Nat} {v:Value} (h:Value.okWide P W r b T v):iD v=i.ty.isAgg:=by
 have ax:=(tab T i ab).desc;unfold jK at ax;unfold Value.okWide at h;have cell: ∀d,P.underlying T=some d->(∀fs,d≠ .struct fs)->(∀n e,d≠ .array n e)->Cell.okWide P W r b T v->(d=.bool\/(∃k,d=.int k)\/d=.string\/ ∃e,d=.slice e)->iD v=false:=by
  intro d ax _ _ aB mF;simp only[Cell.okWide,ax]at aB;rcases mF with rfl |⟨k,rfl⟩|rfl |⟨e,rfl⟩<;>cases v<;>first |rfl |(simp_all [Cell.ok,iD])
 cases aU:i.ty with
 |bool=>
  simp only[aU]at ax;simp only[ax]at h;exact cell _ ax (by simp) (by simp) h (.inl rfl)
 |int k=>
  simp only[aU]at ax;simp only[ax]at h;exact cell _ ax (by simp) (by simp) h (.inr (.inl ⟨k,rfl⟩))
 |str=>
  simp only[aU]at ax;simp only[ax]at h;exact cell _ ax (by simp) (by simp) h (.inr (.inr (.inl rfl)))
 |list t=>
  simp only[aU]at ax;simp only[ax.1]at h;exact cell _ ax.1 (by simp) (by simp) h (.inr (.inr (.inr ⟨_,rfl⟩)))
 |opq=>exact absurd aU cp
 |unit=>
  simp only[aU]at ax;rcases ax with ⟨_,fs,ax,_⟩|⟨_,n,e,cW,ax,_⟩<;> · simp only[ax]at h;obtain ⟨cs,rfl,-⟩:=h;rfl
 |pair x y=>
  simp only[aU]at ax;rcases ax with ⟨_,fs,ax,_⟩|⟨_,n,e,cW,ax,_⟩<;> · simp only[ax]at h;obtain ⟨cs,rfl,-⟩:=h;rfl
theorem K6 (tab:cA P cx) (jI:Ig H) {M N:Nat} {T:TypeId} {i:e5} (aA:uU cx B N T=true) (ab:cx.ti T=some i) (cp:i.ty≠ .opq) {r:Reach} {b:Nat} {v:Value} (cF:Value.okWide P W r b T v) {d:DataW H} {ps:List MemPlace} (h:DataW.Trod enc P W base spare held T v d ps)
  (hw:(d.weights P T).all (· <=reachBytes)=true): ∃y:i.ty.den,cf (Told W) W i.ty y v/\i.ty.good B y/\(jI.U d<=M->i.ty.small M y):=by
 obtain ⟨fuel,aK⟩:=h;obtain ⟨y,bf,pd,pM⟩:=Ds tab jI N T i fuel _ _ aA ab aK hw;exact ⟨y,⟨bf,anb tab ab cp cF⟩,pd,pM⟩
mutual
def nV:DataW H->Nat
 | .lit (.string bytes)=>bytes.length+1
 | .lit _=>1
 | .nil=>1
 | .ptr d=>nV d+1
 | .slice mu spare=>sj mu+sj spare+1
 | .agg parts=>sj parts+1
 | .iface _ d=>nV d+1
 | .map _=>1
 | .held _=>1
def sj:List (DataW H)->Nat
 |[]=>0
 |d::r=>nV d+sj r
end
def LM (H:Type):Ig H where
 U:=nV
 A:=sj
 str s:=by simp[nV]
 slice es sp:=by simp only[nV];omega
 agg ps:=by simp only[nV];omega
 mem d l h:=by
  induction l with
  |nil=>cases h
  |cons e l aO=>
   simp only[sj];rcases List.mem_cons.1 h with rfl |h
   ·omega
   ·have:=aO h;omega
 len l:=by
  induction l with
  |nil=>simp
  |cons e l aO=>
   have:1<=nV e:=by
    cases e with
    |lit l=>cases l<;>simp[nV]
    |_=>simp[nV]
   simp only[sj,List.length_cons];omega
theorem apa [Env] (Aa: ∀g,ja (Told W) W g 0 ((Env.glob g).map lg)) {f:FuncId} {args:List ae} {r:ae} {aC:List aG} (g:iL P f args [] r aC) (eu:ae.idsL args=[]) {vs:Array Value} (dy:ae.relT (Told W) (fun _=>undef) W args vs.toList):
  Calls P f vs W fun e w'=> ∃v φ' ι',e=.returned v/\r.rel φ' ι' w' v/\Below W.heap.size W w':=by
 have bY:bR (Told W) (fun _=>undef) W []:=by
  refine ⟨fun o=> ?_,fun o dg b h=> ?_,fun b k h=>h,fun o i h=> ?_,Aa⟩
  ·rw[nC (Nat.zero_le _)];trivial
  ·rw[nC (Nat.zero_le _)]at h;cases h
  ·rw[nC (Nat.zero_le _)]at h;simp[aG.ids]at h
 refine Calls.mono (g.2 (Told W) (fun _=>undef) W vs bY (fun i h=>by simp at h) dy (fun i h=>by rw[eu]at h;simp at h)) fun e w'=> ?_
 rintro ⟨v,φ',ι',he,-,s,-,aA,-⟩;refine ⟨v,φ',ι',he,aA,⟨s.os,s.tape,s.output,s.size,fun k av=>s.blocks k av ?_⟩⟩;rintro ⟨o,h,-⟩;rw[nC (Nat.zero_le _)]at h;cases h
theorem aqu [Env] (Aa: ∀g,ja (Told W) W g 0 ((Env.glob g).map lg)) {f:FuncId} {args:List ae} {aC:List aG} (g:iL P f args [] (.dat .bool true) aC) (eu:ae.idsL args=[]) {vs:Array Value} (dy:ae.relT (Told W) (fun _=>undef) W args vs.toList):
  Calls P f vs W fun e w'=>e=.returned (.bool true)/\Below W.heap.size W w':=by
 refine Calls.mono (apa Aa g eu dy) fun e w'=> ?_
 rintro ⟨v,φ',ι',he,aA,ag⟩;have:v=.bool true:=cf.bool.1 aA;exact ⟨by rw[he,this],ag⟩
end
open Go.RowKit
def L7 [Env] (P:Program):List aS->Prop
 |[]=>True
 |E::l=>o3 P E/\L7 P l
theorem bE [Env] {P:Program}: ∀{l:List aS},L7 P l->bL P (gl l):=by
 intro l h;refine XC l fun E h5=> ?_
 induction l with
 |nil=>cases h5
 |cons F l aO=>
  rcases List.mem_cons.1 h5 with rfl |h5
  ·exact h.1
  ·exact aO h.2 h5
def mX [Env] (P:Program) (F:a8) (nt:Nat):List (Nat×Code)->Prop
 |[]=>True
 |q::l=>fS P F nt q.1 q.2/\mX P F nt l
theorem sd [Env] {P:Program} {F:a8} {nt:Nat}: ∀{l m:List (Nat×Code)},l=m->mX P F nt m-> ∀q∈l,fS P F nt q.1 q.2:=by
 rintro l m rfl h q aN
 induction l with
 |nil=>cases aN
 |cons F l aO=>
  rcases List.mem_cons.1 aN with rfl |aN
  ·exact h.1
  ·exact aO h.2 aN
theorem KH {σ ρ:Type} {b:σ->Option (σ⊕ρ)} {s:σ} {r:ρ} (h:bN b s=some r): ∃n,dR b n s=some r:=⟨_,h⟩
theorem YA {σ ρ:Type} {b:σ->Option (σ⊕ρ)}: ∀{n:Nat} {s:σ} {r:ρ} (k:Nat),dR b n s=some r->dR b (n+k) s=some r
 |0,s,r,k,h=>by cases h
 |n+1,s,r,k,h=>by
  rw[show n+1+k=(n+k)+1 by omega];simp only[dR]at h ⊢;cases ag:b s with
  |none=>rw[ag]at h;cases h
  |some q=>
   rw[ag]at h;cases q with
   |inl t=>exact YA k h
   |inr r=>exact h
theorem lB {σ ρ:Type} {b:σ->Option (σ⊕ρ)} {s:σ} {r:ρ} {n:Nat} (aQ:n<=jB) (h:dR b n s=some r):bN b s=some r:=by
 obtain ⟨k,av⟩:=Nat.le.dest aQ;unfold bN;rw[<-av];exact YA k h
theorem pR [Env] {P:Program} {F:a8} {nt:Nat} (tab:cA P F.cx) (cE:bL P F.Γ) (hm:P.follows .mixedOrders=true) {L:bq} {c:Code} {k:Nat} {b:L.S.ty.den->Option (L.S.ty.den⊕L.Out)} {f:L.S.ty.den->Option L.Out} (NU: ∀s,f s=bN b s) (l3:F.Λ k=L.go f F.m)
  {m:List (Nat×Code)} (hN:dF c k=m) (ds:mX P F nt m) (aB:fW nt c=true) (cy:ih P F nt c) (ag: ∀s,(L.body F c k s).val=b s):fS P F nt k c:=by
 refine aoW tab cE hm l3 (sd hN ds) aB cy fun s o h=> ?_
 rw[NU]at h;obtain ⟨n,aQ⟩:=KH h;exact ⟨n,by rw[show (fun s=>(L.body F c k s).val)=b from funext ag];exact aQ⟩
theorem pQ [Env] {P:Program} {F:a8} (tab:cA P F.cx) (cE:bL P F.Γ) (hm:P.follows .mixedOrders=true) {E:aS} {fn:Func} (aK:P.funcs[E.f]? =some fn) (ag:fn.body=some (bJ fn)) (cF:lP fn E.S E.Z=true)
  {m:List (Nat×Code)} (hN:dF (bJ fn) 0=m) (ds:mX P F fn.ntmps m) (cy:ih P F fn.ntmps (bJ fn)) (ek:F.m=E.S.objs.length) (bH: ∀s,(ku F fn E.S E.Z s).val=E.g s):cc P E:=
 apc tab cE hm aK ag cF (sd hN ds) cy ek fun s z h=>(bH s).trans h
open Go.RowKit
def sH (P:Program) (cx:bS):Nat->TypeId->Bool
 |0,_=>false
 |n+1,T=>match cx.ti T with
  |none=>false
  |some i=>(match i.ty with
   | .bool=>true
   | .int _=>true
   | .str=>true
   | .list _=>false
   | .opq=>false
   |ty=> !i.arr&&ty.chain&&Nat.beq ty.comps i.fields.length&& !P.stoodInHeld T&&(match P.underlying T with
    |some (.struct fs)=>fs.toList.all (fun f=> !(f.name== "_")&&sH P cx n f.type)
    |_=>false))
section
variable {P:Program} {cx:bS} {φ:bw} {w:World}
theorem aaf (tab:cA P cx) {U:TypeId} {j:e5} (ay:cx.ti U=some j) {xs:Array Value} {off:Nat} {x:j.ty.den} (h:bh φ w j.ty x ((xs.toList.drop off).take j.ty.size)) (vQ:0<j.ty.size):
  ∃v,(part U xs off).run P w=.ok v w/\cf φ w j.ty x v:=by
 refine ⟨m7 j.ty ((xs.toList.drop off).take j.ty.size),?_,(cf.of h).1⟩;unfold part m7;simp only[Sem.run_bind,KT tab ay,Result.andThen_ok];by_cases aR:j.ty.isAgg=true
 ·rw[if_pos aR,if_pos aR];simp only[Sem.run_bind,BW tab ay,Result.andThen_ok,Sem.run_pure];congr 2;apply Array.ext';rw[Array.toList_extract,List.extract_eq_take_drop];simp
 ·simp only[Bool.not_eq_true]at aR;have ao:=h.len;have aa:((xs.toList.drop off).take j.ty.size)[0]? =some (((xs.toList.drop off).take j.ty.size).headD undef):=by
   cases aB:(xs.toList.drop off).take j.ty.size with
   |nil=>rw[aB]at ao;simp at ao;omega
   |cons a l=>rfl
  have ad:xs[off]? =some (((xs.toList.drop off).take j.ty.size).headD undef):=by
   rw[<-aa,List.getElem?_take,if_pos vQ,List.getElem?_drop];simp
  simp only[aR,Bool.false_eq_true,if_false,ad,Sem.run_pure]
theorem UN (tab:cA P cx) {d:Nat} {xs aT:Array Value} (aO: ∀U j,cx.ti U=some j->sH P cx d U=true-> ∀x y cj fK e,d<=e->cf φ w j.ty x cj->cf φ w j.ty y fK->(Op.equalIn e U cj fK).run P w=.ok (j.ty.eqb x y) w) {e:Nat} (he:d<=e):
  ∀(t:aD) (fs:List Field) (base:Nat) (x y:t.den),t.chain=true->fs.length=t.comps->(∀(f:Nat) fd,fs[f]? =some fd->(!(fd.name== "_")&&sH P cx d fd.type)=true/\fd.offset=base+t.offs f/\ ∃j,cx.ti fd.type=some j/\t.nth f=some j.ty/\0<j.ty.size)->
   bh φ w t x ((xs.toList.drop base).take t.size)->bh φ w t y ((aT.toList.drop base).take t.size)->(Op.eqFields e xs aT fs).run P w=.ok (t.eqb x y) w
 | .unit,[],base,x,y,_,_,_,_,_=>by simp[Op.eqFields,aD.eqb]
 | .unit,_::_,base,x,y,_,ao,_,_,_=>by simp[aD.comps]at ao
 | .pair a b,[],base,x,y,_,ao,_,_,_=>by simp[aD.comps]at ao
 | .pair a b,f::fs,base,x,y,aB,ao,aK,aw,bf=>by
  obtain ⟨aa,ad,j,ay,aQ,vQ⟩:=aK 0 f rfl;have ar5:a=j.ty:=by simpa [aD.nth] using aQ
  subst ar5;simp only[bB,Bool.not_eq_true',beq_eq_false_iff_ne]at aa;have ad:f.offset=base:=by simpa [aD.offs] using ad
  have sp: ∀{z:(aD.pair j.ty b).den} {zs:Array Value},bh φ w (.pair j.ty b) z ((zs.toList.drop base).take (aD.pair j.ty b).size)->bh φ w j.ty z.1 ((zs.toList.drop base).take j.ty.size)/\bh φ w b z.2 ((zs.toList.drop (base+j.ty.size)).take b.size):=by
   intro z zs bA;obtain ⟨a7,aY,ai,a1,k2⟩:=bA;have de:=a1.len;have cP:=k2.len;have di:(aD.pair j.ty b).size=j.ty.size+b.size:=rfl;rw[di,List.take_add]at ai;have hlen:((zs.toList.drop base).take j.ty.size).length=a7.length:=by
    have:=congrArg List.length ai;simp only[List.length_append,List.length_take,List.length_drop]at this ⊢;omega
   obtain ⟨aq,bc⟩:=List.append_inj ai hlen;rw[aq,<-List.drop_drop,bc];exact ⟨a1,k2⟩
  obtain ⟨mg,mW⟩:=sp aw;obtain ⟨hx,jw⟩:=sp bf;obtain ⟨kX,atZ,aeE⟩:=aaf tab ay mg vQ;obtain ⟨avw,at0,aeF⟩:=aaf tab ay hx vQ;have lk:=aO f.type j ay aa.2 x.1 y.1 kX avw e he aeE aeF;have rest:=UN tab aO he b fs (base+j.ty.size) x.2 y.2 aB (by simpa [aD.comps] using ao) (fun k fd av=>by
   obtain ⟨g1,g2,dP,g3,g4,g5⟩:=aK (k+1) fd (by simpa using av);refine ⟨g1,?_,dP,g3,by simpa [aD.nth] using g4,g5⟩;rw[g2];simp only[aD.offs];omega) mW jw
  rw[Op.eqFields,if_pos aa.1,ad];simp only[Sem.run_bind,atZ,at0,Result.andThen_ok,lk];simp only[aD.eqb];cases ag:j.ty.eqb x.1 y.1
  ·simp
  ·simpa using rest
 | .bool,_,_,_,_,h,_,_,_,_=>by cases h
 | .int _,_,_,_,_,h,_,_,_,_=>by cases h
 | .str,_,_,_,_,h,_,_,_,_=>by cases h
 | .opq,_,_,_,_,h,_,_,_,_=>by cases h
 | .list _,_,_,_,_,h,_,_,_,_=>by cases h
theorem Yx (tab:cA P cx): ∀(n:Nat) (T:TypeId) (i:e5),cx.ti T=some i->sH P cx n T=true-> ∀x y cj fK e,n<=e->cf φ w i.ty x cj->cf φ w i.ty y fK->(Op.equalIn e T cj fK).run P w=.ok (i.ty.eqb x y) w
 |0,T,i,_,h=>by cases h
 |n+1,T,i,ab,h=>by
  intro x y cj fK e he aw bf;obtain ⟨e,rfl⟩: ∃k,e=k+1:=⟨e-1,by omega⟩;simp only[sH,ab]at h;have ax:=(tab T i ab).desc;have agg: ∀ty:aD,i.ty=ty->ty.isAgg=true->(!i.arr&&ty.chain&&Nat.beq ty.comps i.fields.length&& !P.stoodInHeld T&&(match P.underlying T with
    |some (.struct fs)=>fs.toList.all (fun f=> !(f.name== "_")&&sH P cx n f.type)
    |_=>false))=true->((i.arr=false/\ ∃fs,P.underlying T=some (.struct fs)/\fs.size=i.fields.length/\ ∀(f:Nat) U,i.fields[f]? =some U-> ∃fd,fs[f]? =some fd/\fd.type=U/\ma P cx ty f U fd.offset)\/
   (i.arr=true/\ ∃n e cW,P.underlying T=some (.array n e)/\i.fields.length=n/\P.info? e=some cW/\ ∀(f:Nat) U,i.fields[f]? =some U->U=e/\ma P cx ty f U (f*cW.size)))->(Op.equalIn (e+1) T cj fK).run P w=.ok (i.ty.eqb x y) w:=by
   intro ty dH h6 ag mF;subst dH;simp only[bB,Bool.not_eq_true',Nat.beq_eq]at ag;obtain ⟨⟨⟨⟨b1,b2⟩,b3⟩,gL⟩,gX⟩:=ag;rcases mF with ⟨-,fs,hu,iA,aK⟩|⟨aa,-⟩
   ·rw[hu]at gX;simp only[List.all_eq_true]at gX;have y0:=aw.2;have y1:=bf.2;rw[h6]at y0 y1;obtain ⟨aqM,rfl⟩:=sx y0;obtain ⟨aqN,rfl⟩:=sx y1;have abN:P.fieldsOf T=fs:=by simp[Program.fieldsOf,hu]
    rw[run_equalIn_struct (P:=P) w e T aqM aqN (by rw[abN];exact hu) gL,abN];have eK:=aw.1.len;have ri:=bf.1.len;refine UN tab (fun U j ay aN x y cj fK e he=>Yx tab n U j ay aN x y cj fK e he) (d:=n) (by omega) i.ty fs.toList 0 x y b2 (by simp[iA,b3]) (fun f fd ll=> ?_) ?_ ?_
    ·have bb:f<fs.size:=by
      have:=(List.getElem?_eq_some_iff.1 ll).1;simpa using this
     obtain ⟨abb,g1,g2,g3,j,g4,g5,g6⟩:=aK f _ (List.getElem?_eq_getElem (by omega));have arN:fs[f]? =some fd:=by simpa using ll
     rw[arN]at g1;obtain rfl:=Option.some.inj g1;refine ⟨gX fd (List.mem_of_getElem? ll),by rw[g3,Nat.zero_add],j,by rw[g2];exact g4,g5,g6⟩
    ·have:=aw.1;rw[List.drop_zero,List.take_of_length_le (by rw[<-eK];exact Nat.le_refl _)];exact this
    ·have:=bf.1;rw[List.drop_zero,List.take_of_length_le (by rw[<-ri];exact Nat.le_refl _)];exact this
   ·rw[b1]at aa;cases aa
  unfold jK at ax;obtain ⟨ty,el,abd,av1,zB,alj⟩:=i;simp only at ax h aw bf agg x y ⊢;cases ty with
  |bool=>
   obtain rfl:=cf.bool.1 aw;obtain rfl:=cf.bool.1 bf;exact Tk ax e x y w
  |int k=>
   obtain rfl:=cf.int.1 aw;obtain rfl:=cf.int.1 bf;simp only[Op.equalIn,Sem.run_bind,run_underlying ax,Result.andThen_ok,if_true,Sem.run_pure,aD.eqb];congr 1
  |str=>
   obtain rfl:=cf.str.1 aw;obtain rfl:=cf.str.1 bf;simp only[Op.equalIn,Sem.run_bind,run_underlying ax,Result.andThen_ok,Sem.run_pure,aD.eqb];congr 1;rw[beq_toListBytes,ov,ov,si]
  |list t=>cases h
  |opq=>cases h
  |unit=>exact agg .unit rfl rfl h ax
  |pair a b=>exact agg (.pair a b) rfl rfl h ax
def LY (P:Program) (cx:bS) (T:TypeId):Bool:=sH P cx 20 T&& !P.eqGuardType P.depth T
theorem apW (tab:cA P cx) {T:TypeId} {i:e5} (ab:cx.ti T=some i) (h:LY P cx T=true) (h6:i.ty.isAgg=true):aba P T i.ty:=by
 simp only[LY,bB,Bool.not_eq_true']at h;obtain ⟨aa,ad⟩:=h;intro φ w x y cj fK mh nI aw bf;have he:=Yx (w:=w) tab 20 T i ab aa x y cj fK Op.maxDepth (by decide) aw bf;have y0:=aw.2;have y1:=bf.2;rw[h6]at y0 y1;obtain ⟨cs,rfl⟩:=sx y0;obtain ⟨ei,rfl⟩:=sx y1;constructor
 ·simp[eqGuard,ad,binOp,Op.equal,he]
 ·simp[eqGuard,ad,binOp,Op.equal,he]
end
def bS.plain (cx:bS):bS:={cx with tab:=cx.tab.map fun p=>(p.1,{p.2 with cmp:=false})}
def Zs (P:Program) (cx:bS):Bool:=LG P cx.plain&&cx.tab.all fun p=>Ek P cx p.1 p.2&&D3 P cx p.1 p.2&&(!p.2.cmp||LY P cx.plain p.1)&&D6 P p.1 p.2&&D7 P p.1 p.2
theorem aoO {P:Program} {cx:bS} (h:Zs P cx=true):cA P cx:=by
 have ds: ∀(l:List (Nat×e5)) T i,bS.ti.go T l=some i->(T,i)∈l:=by
  intro l T i
  induction l with
  |nil=>intro h;simp[bS.ti.go]at h
  |cons p l aO=>
   obtain ⟨U,j⟩:=p;intro h;simp only[bS.ti.go]at h;cases ag:Nat.beq T U
   ·simp only[ag,aM]at h;exact List.mem_cons_of_mem _ (aO h)
   ·simp only[ag,az,bt]at h;have:T=U:=by simpa using ag
    subst this h;simp
 have l0: ∀(l:List (Nat×e5)) T i,bS.ti.go T l=some i->bS.ti.go T (l.map fun p=>(p.1,{p.2 with cmp:=false}))=some {i with cmp:=false}:=by
  intro l T i
  induction l with
  |nil=>intro h;simp[bS.ti.go]at h
  |cons p l aO=>
   obtain ⟨U,j⟩:=p;intro h;simp only[bS.ti.go,List.map_cons]at h ⊢;cases ag:Nat.beq T U
   ·simp only[ag,aM]at h ⊢;exact aO h
   ·simp only[ag,az,bt]at h ⊢;subst h;rfl
 simp only[Zs,bB,List.all_eq_true]at h;obtain ⟨aa,ad⟩:=h;have tab:=aqr aa;intro T i ab;have hm:=ds cx.tab T i ab;have al:=ad _ hm;simp only[Bool.or_eq_true,Bool.not_eq_true']at al;refine ⟨Xd al.1.1.1.1,VU al.1.1.1.2,fun aB _ aR=> ?_,VW al.1.2,V1 al.2⟩;have aE:=al.1.1.2.resolve_left (by rw[aB];simp);exact apW (i:={i with cmp:=false}) tab (l0 cx.tab T i ab) aE aR
theorem ahp {x:Int} (bY: -9223372036854775808<=x) (aa:x<9223372036854775808):IntKind.i64.wrap x=x:=L6 bY aa
open Go.RowKit
def R7:List (Nat×Nat)->Nat->Nat->Bool
 |[],_,_=>false
 |(f,j)::l,kB,hb=>(Nat.beq f kB&&Nat.beq j hb)||R7 l kB hb
def R8 (R:bD):Shape:=⟨R.map fun p=>(p.1,.undef),[]⟩
def Mp [Env] (F:a8) (fn:Func) (args:List ae) (H:List aG):DT (ae×List aG):=
 bif Nat.ble args.length fn.ntmps then
  (e1 {cx:=F.cx,Γ:=F.Γ,Λ:=fun _ _=>.fail,keep:=F.keep,m:=H.length} (fn.body.getD .skip) 0 ⟨eW 0 args,H⟩).bind fun q=>match q.1 with
   | .exit _=>.fail
   |_=>((kn F.cx q.2.regs 0 fn.results.toList).run q.2.heap q.2.heap.length .none).bind fun p=>
    ((x1 (R8 p.1) H.length p.1).run p.2.1 p.2.1.length .none).bind fun s=>
     bif decide (s.1.regs.map (·.1)=List.range' 0 fn.results.size) then .leaf (iK s.1.regs,s.1.heap) else .fail
 else .fail
def y8 (f:FuncId) (g:List ae->List aG->DT (ae×List aG)) (Γ:gi):gi:=fun kB args H=>bif Nat.beq kB f then g args H else Γ kB args H
section
variable {P:Program} {H:List aG}
theorem YJ [Env] {f:FuncId} {g:List ae->List aG->DT (ae×List aG)} {Γ:gi} (h: ∀args H r aC,(g args H).val=some (r,aC)->uc P f args H r aC) (cE:bL P Γ):bL P (y8 f g Γ):=by
 intro kB args H r aC e;unfold y8 at e;cases ag:Nat.beq kB f
 ·rw[ag,aM]at e;exact cE kB args H r aC e
 ·rw[ag,az]at e;have:kB=f:=by simpa using ag
  subst this;exact h args H r aC e
theorem C4 [Env] {f:FuncId} {g:List ae->List aG->DT (ae×List aG)} {Γ:gi} (aK:hS f=false) (h: ∀args H r aC,(g args H).val=some (r,aC)->iL P f args H r aC) (cE:bL P Γ):bL P (y8 f g Γ):=
 YJ (fun args H r aC e=>(h args H r aC e).x aK) cE
theorem Dl [Env] {F:a8} (tab:cA P F.cx) (cE:bL P F.Γ) (hm:P.follows .mixedOrders=true) {f:FuncId} {fn:Func} (aK:P.funcs[f]? =some fn) (ag:fn.body=some (bJ fn)) (cF:(fW fn.ntmps (bJ fn)&& !(fn.name== "runtime.NumGoroutine")&& !eb (bJ fn)&& !fh (bJ fn)&&Nat.ble fn.ntmps c1&&Nat.ble fn.results.size c1)=true) (ao:dF (bJ fn) 0=[])
  (args:List ae) (H:List aG) (r:ae) (aC:List aG) (e:(Mp F fn args H).val=some (r,aC)):iL P f args H r aC:=by
 simp only[bB,Bool.not_eq_true']at cF;obtain ⟨⟨⟨⟨⟨mH,lX⟩,lY⟩,ik⟩,gF⟩,gR⟩:=cF;have gF:=Nat.le_of_ble_eq_true gF;have gR:=Nat.le_of_ble_eq_true gR;unfold Mp at e;cases NK:Nat.ble args.length fn.ntmps
 ·simp[NK,DT.val]at e
 rw[NK,az]at e;obtain ⟨⟨ai,b9⟩,aa,ad⟩:=DT.val_bind_some e;have al:ai=.nrm\/ai=.ret:=by
  cases ai with
  |nrm=>exact .inl rfl
  |ret=>exact .inr rfl
  |exit i=>simp[DT.val]at ad
 have aE:(((kn F.cx b9.regs 0 fn.results.toList).run b9.heap b9.heap.length .none).bind fun p=>
    ((x1 (R8 p.1) H.length p.1).run p.2.1 p.2.1.length .none).bind fun s=>
     bif decide (s.1.regs.map (·.1)=List.range' 0 fn.results.size) then DT.leaf (iK s.1.regs,s.1.heap) else .fail).val=some (r,aC):=by
  rcases al with rfl |rfl<;>exact ad
 obtain ⟨⟨R,aZ,kR,ry⟩,bu,dq⟩:=DT.val_bind_some aE;have ix:=HM.go_run _ _ _ _ _ _ _ _ bu;obtain ⟨⟨aW,bC,wJ,pp⟩,h4,n1⟩:=DT.val_bind_some dq;have aq5:=HM.go_run _ _ _ _ _ _ _ _ h4;simp only at n1;cases av:decide (aW.regs.map (·.1)=List.range' 0 fn.results.size)
 ·simp[av,DT.val]at n1
 rw[av,az]at n1;simp only[DT.val,bt,cw]at n1;obtain ⟨rfl,rfl⟩:=n1;have Fu:=of_decide_eq_true av;refine ⟨⟨fn,aK,lX,by rw[ag];rfl⟩,?_⟩;intro φ ι w vs dy ej eH eu;refine u1 aK ag ?_;have dK:vs.size=args.length:=by
  have: ∀(l:List ae) (vs:List Value),ae.relT φ ι w l vs->vs.length=l.length:=by
   intro l
   induction l with
   |nil=>intro vs h;simp only[ae.relT]at h;simp[h]
   |cons r l aO=>intro vs h;obtain ⟨v,m,rfl,-,h⟩:=h;simp[aO m h]
  simpa using this _ _ eH
 have di:vs.size<=fn.ntmps:=by rw[dK];exact Nat.le_of_ble_eq_true NK
 have jY:cO φ ι w ⟨fn.ntmps,w.heap.size,[],none,false⟩ ⟨eW 0 args,H⟩ {tmps:=vs++Array.replicate (fn.ntmps-vs.size) undef,defers:=[]}:=by
  refine ⟨dy,fun d r ax=> ?_,by simp;omega,gF,mf (Nat.le_refl _)⟩;obtain ⟨a1,k2,b8⟩:=mD args 0;obtain ⟨k,av,gq⟩:=lA _ 0 d r (by rw[a1,k2]) ax;have fF:d=k:=by omega
  subst fF;have bo:=b8 d (d,r) gq;simp only at bo;obtain ⟨v,aX,hO⟩:=rU eH bo;have ee:vs[d]? =some v:=by simpa using aX
  have kc:d<vs.size:=(Array.getElem?_eq_some_iff.1 ee).1;have:(vs++Array.replicate (fn.ntmps-vs.size) undef).getD d undef=v:=by
   rw[Array.getD_eq_getD_getElem?,Array.getElem?_append_left kc,ee];rfl
  rw[hp (by omega),this];exact ⟨hO,fun i ab=>eu i (rX bo i ab)⟩
 have h9:fC H.length H:=fun o an=>ej o an
 have aru:fn.body.getD .skip=bJ fn:=rfl;rw[aru]at aa;refine l5 (F:={cx:=F.cx,Γ:=F.Γ,Λ:=fun _ _=>.fail,keep:=F.keep,m:=H.length}) tab cE hm (bJ fn) 0 _ ai b9 φ ι w _ _ aa (by rw[ao];simp) mH (dQ _ lY) (hf.fn ik) jY h9 fun bd w' φ' ι' cu sp bG=> ?_
 refine BR al cu sp fun w' cu sp=> ?_
 have jU:=bG.live h9;obtain ⟨bj,bU,us,da,c8,fk,gv⟩:=tN tab fn.results.toList 0 R b9.heap _ aZ kR ix cu.heap cu.regs;have kF:R.length=us.length:=by
  have:=congrArg List.length fk;simpa [c8] using this
 have rr:k5 φ' ι' w' aZ R (fun d=>us.toArray.getD d undef):=by
  rw[bj];intro d r ax;obtain ⟨k,av,gq⟩:=lA R 0 d r (by rw[fk];congr 1;omega) ax;have fF:d=k:=by omega
  subst fF;obtain ⟨v,aX,hO,ft⟩:=gv d (d,r) gq;have:us.toArray.getD d undef=v:=by simp[Array.getD_eq_getD_getElem?,aX]
  simp only[this];exact ⟨hO,ft⟩
 obtain ⟨dv,dz,cZ,cr,ey,ki,oj,aea,awL⟩:=Y0 (tm:=fun d=>us.toArray.getD d undef) aq5 rfl (by rw[bj];exact cu.heap) rr (by rw[bj];exact jU);have gm:aW.regs.length=us.toArray.size:=by
  have:=congrArg List.length Fu;simp only[List.length_map,List.length_range']at this;rw[this];simp[c8]
 obtain ⟨au,aL⟩:=so (vs:=us.toArray) (R:=aW.regs) (by rw[Fu];congr 1;simpa [c8] using gm.symm) gm cr;have kN:=tP da;refine ⟨_,kN,_,dv,dz,rfl,cZ,?_,?_,au,aL⟩
 ·rw[bj]at ey;exact sp.trans ey
 ·rw[bj]at ki;have hr:=bG.trans ki;refine ⟨fun o an=> ?_,fun o an=> ?_⟩
  ·exact (hr o (fo an) an).1
  ·exact (hr o (fo an) an).2
end
open Go.RowKit
structure aam [Env] (F:a8) (ops:Array Oper) (st:bn) (fl:bn->Prop) (os:List Oper) (o:Oper) (T:TypeId) (x:Operand) (d:Tmp) (dC:bn) (t:aD) (xs:List t.den):Prop where
 split:ops.toList=os++[o]
 op:o.op=.binOp .eql T x (.const (.slice none 0 0)) T
 dst:o.dst=some d
 guard:o.guard=none
 run:(mU F.cx F.Γ ops os st).val=some dC
 val:gB dC.regs x=.dat (.list t) xs
 ty:F.cx.isTy T (.list t)=true
 yes:xs=[]->fl ⟨dC.regs.put d (.dat .bool true),dC.heap⟩
 no:fl ⟨dC.regs.put d (.dat .bool false),dC.heap⟩
def xF [Env] (F:a8) (c:Code) (k:Nat) (st:bn) (fl:dw->bn->Prop):Prop:= ∃e aW,(e1 F c k st).val=some (e,aW)/\fl e aW
def jy [Env] (F:a8):Code->Nat->bn->(dw->bn->Prop)->Prop
 | .seq a b,k,st,fl=>xF F (.seq a b) k st fl\/jy F a k st fun e aW=>(e=.nrm->jy F b k aW fl)/\(e≠ .nrm->fl e aW)
 | .cond c a b,k,st,fl=>xF F (.cond c a b) k st fl\/ ∃d t,c=.tmp d/\st.regs.get d=some (.dat .bool t)/\(t=true->jy F a k st fl)/\(t=false->jy F b k st fl)
 | .region id ops false,k,st,fl=>xF F (.region id ops false) k st fl\/(∃aW,(mU F.cx F.Γ ops ops.toList st).val=some aW/\fl .nrm aW)\/ ∃os o T x d dC t xs,aam F ops st (fl .nrm) os o T x d dC t xs
 |c,k,st,fl=>xF F c k st fl
theorem jy.det [Env] {F:a8} {c:Code} {k:Nat} {st:bn} {fl:dw->bn->Prop} (h:xF F c k st fl):jy F c k st fl:=by
 cases c with
 |region id ops draw=>cases draw<;>first |exact h |exact .inl h
 |_=>first |exact h |exact .inl h
section
variable {P:Program} {nt:hV} {φ:bw} {ι:Nat->Value} {w:World} {H:List aG}
theorem ajL {T e:TypeId} (hu:P.underlying T=some (.slice e)) (d:Nat) (A:Option Addr) (n c:Nat) (w:World):(Op.equalIn (d+1) T (.slice A n c) (.slice none 0 0)).run P w=.ok A.isNone w:=by
 cases A<;>simp[Op.equalIn,run_underlying hu]
theorem akv {T e:TypeId} (hu:P.underlying T=some (.slice e)) (A:Option Addr) (n c:Nat) (w:World):(Op.equal T (.slice A n c) (.slice none 0 0)).run P w=.ok A.isNone w:=ajL hu 9999 A n c w
theorem Yc [Env] {cx:bS} {Γ:gi} (tab:cA P cx) (cE:bL P Γ) {ops:Array Oper} {Q:Exit->Act->World->Prop} {rest:List Oper}: ∀(l:List Oper) (st aW:bn) (φ:bw) (ι:Nat->Value) (w:World) (a:Act),(mU cx Γ ops l st).val=some aW->cO φ ι w nt st a->l.all (nT nt.n)=true->l.any sK=false->
  (∀bd w' φ' ι',cO φ' ι' w' nt aW bd->Step φ ι w st.heap φ' ι' w' aW.heap->dA ι st.heap ι' aW.heap->wpListIn (ed nt.ro) 0 P ops Q rest bd w')->wpListIn (ed nt.ro) 0 P ops Q (l++rest) a w
 |[],st,aW,φ,ι,w,a,e,s,ax,jq,k=>by
  simp only[mU,DT.val,bt]at e;subst e;exact k a w φ ι s (Step.refl _ _ _ _) (dA.refl _ _)
 |o::l,st,aW,φ,ι,w,a,e,s,ax,jq,k=>by
  simp only[mU]at e;obtain ⟨b9,b6,aq⟩:=DT.val_bind_some e;simp only[List.all_cons,bB]at ax;simp only[List.any_cons,Bool.or_eq_false_iff]at jq;obtain ⟨⟨dC,m,p⟩,ai,bc⟩: ∃q,(oy cx Γ ops o st st.heap.length).val=some q/\q.1=b9:=by
   split at b6
   ·rename_i c an;simp[sK,an]at jq
   ·obtain ⟨q,bc,bz⟩:=DT.val_bind_some b6;simp only[DT.val,bt]at bz;exact ⟨q,bc,bz⟩
  simp only at bc;subst bc;have q:=J2 (Q:=Q) tab cE ai s (Lq _ _) ax.1 fun bd w' φ' ι' s1 t1 a1 cC=>
   Yc tab cE l dC aW φ' ι' w' bd aq s1 ax.2 jq.2 fun a2 c9 dv dz s2 t2 k2=>k a2 c9 dv dz s2 (t1.trans t2) (a1.trans k2)
  rw[List.cons_append];unfold wpListIn;split
  ·rename_i h;rw[if_pos h]at q;exact q
  ·rename_i h;rw[if_neg h]at q;exact ⟨fun _ _=>trivial,q⟩
theorem al8 [Env] {F:a8} (tab:cA P F.cx) (cE:bL P F.Γ) {ops:Array Oper} {st:bn} {fl:bn->Prop} {os:List Oper} {o:Oper} {T:TypeId} {x:Operand} {d:Tmp} {dC:bn} {t:aD} {xs:List t.den} (N:aam F ops st fl os o T x d dC t xs)
  {Q:Exit->Act->World->Prop} {a:Act} {id:Nat} (ax:ops.toList.all (nT nt.n)=true) (jq:ops.toList.any sK=false) (s:cO φ ι w nt st a)
  (k: ∀aW bd w' φ' ι',fl aW->cO φ' ι' w' nt aW bd->Step φ ι w st.heap φ' ι' w' aW.heap->dA ι st.heap ι' aW.heap->Q .normal bd w'):(Code.region id ops false).wpIn (ed nt.ro) 0 P Q a w:=by
 refine wpIn_region_list ?_;rw[N.split]at ax jq ⊢;rw[List.any_append,Bool.or_eq_false_iff]at jq;simp only[List.all_append,List.all_cons,List.all_nil,Bool.and_true,bB]at ax;refine Yc tab cE os st dC φ ι w a N.run s ax.1 jq.1 fun bd w' φ' ι' s1 t1 a1=> ?_
 have aw:=(s1.eval x).1;rw[N.val]at aw;have vV:cf φ' w' (.list t) xs (bd.eval x):=aw;obtain ⟨A,m,c,aX,ao,s3,pq⟩:=cf.list vV;obtain ⟨ti,ew,dH⟩:=gk N.ty;have hu:=(jj tab ew dH).1;have hw:Region.wanted o (yielded ops bd.tmps)=true:=by simp[Region.wanted,N.guard]
 simp only[wpListIn];rw[if_pos hw];have he:(execOp bd.eval o).run P w'=.ok (.value (.bool A.isNone)) w':=by
  simp only[execOp,N.op,aX];rw[show bd.eval (.const (.slice none 0 0))=.slice none 0 0 from rfl];simp[eqGuard,binOp,akv hu]
 have key: ∀b,A.isNone=b->fl ⟨dC.regs.put d (.dat .bool b),dC.heap⟩->Q .normal (bd.put o.dst (.bool A.isNone)) w':=by
  intro b ag aP;rw[ag];have bV:cO φ' ι' w' nt ⟨dC.regs.put d (.dat .bool b),dC.heap⟩ (bd.put o.dst (.bool b)):=by
   have mF: ∀e,o.dst=some e->e<nt.n:=fun e he=>by
    have:=ax.2;unfold nT at this;rw[he]at this;simpa using this
   have:=s1.after s1.heap (Step.refl _ _ _ _) (dA.refl _ _) mF (r:=.dat .bool b) (v:=.bool b) (gC (cf.bool.2 rfl)) (by simp[ae.ids]);rw[N.dst]at this ⊢;exact this
  exact k _ _ _ _ _ aP bV t1 a1
 refine sw (fun c aB=>by rw[N.op]at aB;cases aB) ?_;rw[he];simp only[Oper.uponIn_value];cases A with
 |none=>
  have bY:xs=[]:=List.eq_nil_of_length_eq_zero (by
   rcases pq with h |⟨b,o,cs,h,_⟩
   ·omega
   ·cases h)
  exact key true rfl (N.yes bY)
 |some aii=>exact key false rfl N.no
theorem apd [Env] {F:a8} (tab:cA P F.cx) (cE:bL P F.Γ) (hm:P.follows .mixedOrders=true): ∀(c:Code) (k:Nat) (st:bn) (fl:dw->bn->Prop) (φ:bw) (ι:Nat->Value) (w:World) (a:Act) (Q:Exit->Act->World->Prop),jy F c k st fl->
  (∀q∈dF c k,fS P F nt.n q.1 q.2)->fW nt.n c=true->(eb c=false/\fh c=false)->cO φ ι w nt st a->fC F.m st.heap->
  (∀e aW bd w' φ' ι',fl e aW->cO φ' ι' w' nt aW bd->Step φ ι w st.heap φ' ι' w' aW.heap->gK F.m ι st.heap ι' aW.heap->Q (jA e) bd w')->c.wpIn (ed nt.ro) 0 P Q a w:=by
 intro c
 induction c with
 |seq x y hP hQ=>
  intro k st fl φ ι w a Q h ao aB cy bV lm cB;simp only[jy]at h;rcases h with ⟨e,aW,aa,ad⟩|h
  ·exact l5 tab cE hm _ k st e aW φ ι w a Q aa ao aB (dQ _ cy.1) (hf.no cy.1 cy.2) bV lm fun bd w' φ' ι' cu sp bG=>cB e aW bd w' φ' ι' ad cu sp bG
  simp only[fW,bB]at aB;simp only[eb,fh,Bool.or_eq_false_iff]at cy;refine wpIn_seq (hP k st _ φ ι w a _ h (fun q aN=>ao q (by simp[dF,aN])) aB.1 ⟨cy.1.1,cy.2.1⟩ bV lm fun ai b9 bd w' φ' ι' aP cu sp bG=> ?_);by_cases he:ai=.nrm
  ·subst he;exact hQ k b9 fl φ' ι' w' bd Q (aP.1 rfl) (fun q aN=>ao q (by simp[dF,aN])) aB.2 ⟨cy.1.2,cy.2.2⟩ cu (bG.live lm) fun aq dC a2 c9 dv dz lu iH nH lz=>cB aq dC a2 c9 dv dz lu iH (sp.trans nH) (bG.trans lz)
  ·have aN:=cB ai b9 bd w' φ' ι' (aP.2 he) cu sp bG;cases ai with
   |nrm=>exact absurd rfl he
   |exit i=>exact aN
   |ret=>exact aN
 |cond c x y hP hQ=>
  intro k st fl φ ι w a Q h ao aB cy bV lm cB;simp only[jy]at h;rcases h with ⟨e,aW,aa,ad⟩|h
  ·exact l5 tab cE hm _ k st e aW φ ι w a Q aa ao aB (dQ _ cy.1) (hf.no cy.1 cy.2) bV lm fun bd w' φ' ι' cu sp bG=>cB e aW bd w' φ' ι' ad cu sp bG
  obtain ⟨d,t,rfl,ax,aU,aK⟩:=h;simp only[fW,bB]at aB;simp only[eb,fh,Bool.or_eq_false_iff]at cy;have ag:=(bV.regs d _ ax).1;have cp:d≠c1:=fun e=>by
   have ad:=cf.bool.1 ag;rw[e,oV]at ad;cases ad
  rw[hp cp]at ag;have ag:a.eval (.tmp d)=.bool t:=cf.bool.1 ag;refine wpIn_cond ag ?_;cases t
  ·exact hQ k st fl φ ι w a Q (aK rfl) (fun q aN=>ao q (by simp[dF,aN])) aB.2 ⟨cy.1.2,cy.2.2⟩ bV lm cB
  ·exact hP k st fl φ ι w a Q (aU rfl) (fun q aN=>ao q (by simp[dF,aN])) aB.1 ⟨cy.1.1,cy.2.1⟩ bV lm cB
 |region id ops draw=>
  intro k st fl φ ι w a Q h ao aB cy bV lm cB;cases draw with
  |true=>
   simp only[jy]at h;obtain ⟨e,aW,aa,ad⟩:=h;exact l5 tab cE hm _ k st e aW φ ι w a Q aa ao aB (dQ _ cy.1) (hf.no cy.1 cy.2) bV lm fun bd w' φ' ι' cu sp bG=>cB e aW bd w' φ' ι' ad cu sp bG
  |false=>
   simp only[jy]at h;rcases h with ⟨e,aW,aa,ad⟩|⟨aW,aa,ad⟩|⟨os,o,T,x,d,dC,t,xs,kE⟩
   ·exact l5 tab cE hm _ k st e aW φ ι w a Q aa ao aB (dQ _ cy.1) (hf.no cy.1 cy.2) bV lm fun bd w' φ' ι' cu sp bG=>cB e aW bd w' φ' ι' ad cu sp bG
   ·exact wpIn_region_list (Hu tab cE ops.toList st aW φ ι w a aa bV aB (fun h=>absurd (cy.2.symm.trans h) (by simp)) fun bd w' φ' ι' cu sp bG=>cB .nrm aW bd w' φ' ι' ad cu sp (bG.keepM _))
   ·exact al8 tab cE kE aB cy.2 bV fun aW bd w' φ' ι' aP cu sp bG=>cB .nrm aW bd w' φ' ι' aP cu sp (bG.keepM _)
 |_=>
  intro k st fl φ ι w a Q h ao aB cy bV lm cB;simp only[jy]at h;obtain ⟨e,aW,aa,ad⟩:=h;exact l5 tab cE hm _ k st e aW φ ι w a Q aa ao aB (dQ _ cy.1) (hf.no cy.1 cy.2) bV lm fun bd w' φ' ι' cu sp bG=>cB e aW bd w' φ' ι' ad cu sp bG
def R9 [Env] (F:a8) (fn:Func) (Z:Shape) (z:Z.ty.den) (e:dw) (st:bn):Prop:=
 (e=.nrm\/e=.ret)/\(((kn F.cx st.regs 0 fn.results.toList).run st.heap st.heap.length .none).bind fun (R,h,_,_)=>Z.take F.m ⟨R,h⟩).val=some z
theorem ape [Env] {F:a8} (tab:cA P F.cx) (cE:bL P F.Γ) (hm:P.follows .mixedOrders=true) {f:FuncId} {fn:Func} {c:Code} {S Z:Shape} (aK:P.funcs[f]? =some fn) (ag:fn.body=some c) (cF:lP fn S Z=true) (ds: ∀q∈dF c 0,fS P F fn.ntmps q.1 q.2) (cy:eb c=false)
  {args:List ae} (ek:F.m=S.objs.length) {s:S.ty.den} {z:Z.ty.den} (ar:S.dec ⟨eW 0 args,H⟩=some s) (e:jy F c 0 (S.enc s) (R9 F fn Z z)):iL P f args H (iK (Z.enc z).regs) (Z.enc z).heap:=by
 have fG:=Shape.dec_enc ar;simp only[lP,ag,bB,Bool.not_eq_true',dd]at cF;obtain ⟨⟨⟨⟨⟨⟨mH,ik⟩,gF⟩,gR⟩,lX⟩,lY⟩,lZ⟩:=cF;have gF:=Nat.le_of_ble_eq_true gF;have gR:=Nat.le_of_ble_eq_true gR;have hn:args.length=S.regs.length/\H.length=S.objs.length:=by
  unfold Shape.dec at ar;simp only at ar;cases aR:hD S.regs (eW 0 args) with
  |none=>simp[aR]at ar
  |some x=>
   cases ag:eX S.objs H with
   |none=>simp[aR,ag]at ar
   |some y=>
    refine ⟨by rw[<-xa _ _ _ aR,(mD args 0).2.1],?_⟩;have: ∀(s:List dn) (R:List aG) (l:List dM),eX s R=some l->R.length=s.length:=by
     intro s
     induction s with
     |nil=>intro R l h;cases R<;>simp[eX]at h ⊢
     |cons a s aO=>
      intro R l h;cases R with
      |nil=>simp[eX]at h
      |cons b R=>
       simp only[eX]at h;split at h
       ·obtain ⟨b,ag,-⟩:=Option.map_eq_some_iff.1 h;simp[aO R b ag]
       ·cases h
    exact this _ _ _ ag
 refine ⟨⟨fn,aK,lX,by rw[ag];rfl⟩,?_⟩
 ·intro φ ι w vs dy ej eH eu;refine u1 aK ag ?_;have dK:vs.size=args.length:=by
   have: ∀(l:List ae) (vs:List Value),ae.relT φ ι w l vs->vs.length=l.length:=by
    intro l
    induction l with
    |nil=>intro vs h;simp only[ae.relT]at h;simp[h]
    |cons r l aO=>intro vs h;obtain ⟨v,m,rfl,-,h⟩:=h;simp[aO m h]
   simpa using this _ _ eH
  have di:vs.size<=fn.ntmps:=by
   rw[dK,hn.1];exact Nat.le_of_ble_eq_true lY
  have jY:cO φ ι w ⟨fn.ntmps,w.heap.size,[],none,false⟩ (S.enc s) {tmps:=vs++Array.replicate (fn.ntmps-vs.size) undef,defers:=[]}:=by
   rw[fG];refine ⟨dy,fun d r ax=> ?_,by simp;omega,gF,mf (Nat.le_refl _)⟩;obtain ⟨a1,k2,b8⟩:=mD args 0;obtain ⟨k,av,gq⟩:=lA _ 0 d r (by rw[a1,k2]) ax;have fF:d=k:=by omega
   subst fF;have bo:=b8 d (d,r) gq;simp only at bo;obtain ⟨v,aX,hO⟩:=rU eH bo;have ee:vs[d]? =some v:=by simpa using aX
   have kc:d<vs.size:=(Array.getElem?_eq_some_iff.1 ee).1;have:(vs++Array.replicate (fn.ntmps-vs.size) undef).getD d undef=v:=by
    rw[Array.getD_eq_getD_getElem?,Array.getElem?_append_left kc,ee];rfl
   rw[hp (by omega),this];exact ⟨hO,fun i ab=>eu i (rX bo i ab)⟩
  have nr:(S.enc s).heap=H:=by rw[fG]
  have h9:fC F.m (S.enc s).heap:=by
   rw[nr,ek,<-hn.2];exact fun o an=>ej o an
  refine apd tab cE hm c 0 _ _ φ ι w _ _ e ds mH ⟨cy,ik⟩ jY h9 fun ai b9 bd w' φ' ι' aP cu sp bG=> ?_
  obtain ⟨al,aE⟩:=aP;rw[nr]at sp;refine BR al cu sp fun w' cu sp=> ?_
  obtain ⟨⟨R,aZ,kR,ry⟩,bu,dq⟩:=DT.val_bind_some aE;have ix:=HM.go_run _ _ _ _ _ _ _ _ bu;have jn:(Z.enc z).regs.map (·.1)=List.range' 0 fn.results.size:=by
   obtain ⟨⟨aW,bC,wJ,pp⟩,a1,k2⟩:=DT.val_bind_some dq;simp only[DT.val_ofOpt]at k2;have b8:(Z.enc z).regs.map (·.1)=Z.regs.map (·.1):=by
    unfold Shape.dec at k2;cases aR:hD Z.regs aW.regs with
    |none=>simp[aR]at k2
    |some x=>
     cases ag:eX Z.objs aW.heap with
     |none=>simp[aR,ag]at k2
     |some y=>
      have:=pL _ _ x [] aR;rw[Shape.dec_enc (st:=aW) (by simp only[Shape.dec,aR,ag]at k2 ⊢;exact k2)];exact tD _ _ _ _ this
   rw[b8,lZ]
  have jU:=bG.live h9;obtain ⟨bj,bU,us,da,c8,fk,gv⟩:=tN tab fn.results.toList 0 R b9.heap _ aZ kR ix cu.heap cu.regs;have kF:R.length=us.length:=by
   have:=congrArg List.length fk;simpa [c8] using this
  have iH:cO φ' ι' w' ⟨us.toArray.size,0,[],none,false⟩ ⟨R,aZ⟩ {tmps:=us.toArray,defers:=[]}:=by
   rw[bj];refine ⟨cu.heap,fun d r ax=> ?_,rfl,by rw[List.size_toArray,c8];simpa using gR,mf (Nat.zero_le _)⟩;obtain ⟨k,av,gq⟩:=lA R 0 d r (by rw[fk];congr 1;omega) ax;have fF:d=k:=by omega
   subst fF;obtain ⟨v,aX,hO,ft⟩:=gv d (d,r) gq;have:us.toArray.getD d undef=v:=by simp[Array.getD_eq_getD_getElem?,aX]
   have kc:d<us.length:=(List.getElem?_eq_some_iff.1 aX).1;have Oj:fn.results.toList.length=fn.results.size:=by simp
   rw[hp (by omega)];simp only[this];exact ⟨hO,ft⟩
  obtain ⟨dv,dz,cZ,cr,ey,ki,oj⟩:=j9 dq iH (by rw[bj];exact jU);have gm:(Z.enc z).regs.length=us.toArray.size:=by
   have:=congrArg List.length jn;simp only[List.length_map,List.length_range']at this;rw[this];simp[c8]
  obtain ⟨au,aL⟩:=so (vs:=us.toArray) (R:=(Z.enc z).regs) (by rw[jn];congr 1;simpa [c8] using gm.symm) gm (uF (a:={tmps:=us.toArray,defers:=[]}) (by rw[jn];congr 1;simpa [c8] using gm.symm) (by rw[gm,List.size_toArray,c8];simpa using gR) cZ.regs);have kN:=tP da;refine ⟨_,kN,_,dv,dz,rfl,cZ.heap,?_,?_,au,aL⟩
  ·rw[bj]at cr;exact sp.trans cr
  ·rw[nr]at bG;rw[bj]at ey;have hr:=bG.trans ey;refine ⟨fun o an=> ?_,fun o an=> ?_⟩
   ·have bb:o<F.m:=by rw[ek,<-hn.2];exact fo an
    exact (hr o bb an).1
   ·have bb:o<F.m:=by rw[ek,<-hn.2];exact fo an
    exact (hr o bb an).2
end
def DZ:Code->Option (Array Oper×Array Oper×Tmp×Code×Code)
 | .seq (.region _ rn false) (.seq (.seq (.region _ eM false) (.cond (.tmp d) A .skip)) B)=>some (rn,eM,d,A,B)
 |_=>none
def tY:List Oper->Option (List Oper×Oper)
 |[]=>none
 |[o]=>some ([],o)
 |o::l=>match tY l with
  |some (os,q)=>some (o::os,q)
  |none=>none
def Mg (y:Operand):Bool:=match y with
 | .const (.slice none 0 0)=>true
 |_=>false
def yX [Env] (F:a8) (fn:Func) (Z:Shape) (c:Code) (fx:bn) (b:Bool):DT (Z.ty.den×Nat):=match DZ c with
 |some (rn,eM,d,A,B)=>(mU F.cx F.Γ rn rn.toList fx).bind fun b9=>match tY eM.toList with
  |some (os,o)=>match o.op,o.dst,o.guard with
   | .binOp .eql T x y U,some o8,none=>bif Nat.beq d o8&&Mg y&&Nat.beq U T then
     (mU F.cx F.Γ eM os b9).bind fun dC=>match gB dC.regs x with
      | .dat (.list t) aT=>bif F.cx.isTy T (.list t) then
        (e1 F (match b with |true=>A |false=>B) 0 ⟨dC.regs.put d (.dat .bool b),dC.heap⟩).bind fun q=>match q.1 with
         | .ret=>(((kn F.cx q.2.regs 0 fn.results.toList).run q.2.heap q.2.heap.length .none).bind fun (R,h,_,_)=>Z.take F.m ⟨R,h⟩).bind fun z=>.leaf (z,aT.length)
         |_=>.fail
       else .fail
      |_=>.fail
    else .fail
   |_,_,_=>.fail
  |none=>.fail
 |none=>.fail
theorem Vm: ∀{l:List Oper} {os:List Oper} {o:Oper},tY l=some (os,o)->l=os++[o]
 |[],_,_,h=>by simp[tY]at h
 |[a],os,o,h=>by
  simp only[tY,bt,cw]at h;obtain ⟨rfl,rfl⟩:=h;rfl
 |a::b::l,os,o,h=>by
  simp only[tY]at h;split at h
  ·rename_i awN q aN;simp only[bt,cw]at h;obtain ⟨rfl,rfl⟩:=h;have:=Vm (l:=b::l) aN;rw[this];rfl
  ·cases h
theorem anG {c:Code} {rn eM:Array Oper} {d:Tmp} {A B:Code} (h:DZ c=some (rn,eM,d,A,B)): ∃i0 i1,c=.seq (.region i0 rn false) (.seq (.seq (.region i1 eM false) (.cond (.tmp d) A .skip)) B):=by
 unfold DZ at h;split at h
 ·simp only[bt,cw]at h;obtain ⟨rfl,rfl,rfl,rfl,rfl⟩:=h;exact ⟨_,_,rfl⟩
 ·cases h
theorem aaJ {α:Type} {x:DT α} {a b:α} (h:x.val=some a) (g:x.val=some b):a=b:=by rw[h]at g;exact Option.some.inj g
theorem aoA [Env] {F:a8} {fn:Func} {Z:Shape} {c:Code} {fx:bn} {z B9:Z.ty.den} {n atq:Nat} (b4:(yX F fn Z c fx true).val=some (B9,atq)) (e7:(yX F fn Z c fx false).val=some (z,n)) (bY:n=0->B9=z):jy F c 0 fx (R9 F fn Z z):=by
 unfold yX at b4 e7;cases aB:DZ c with
 |none=>rw[aB]at e7;simp[DT.val]at e7
 |some q=>
  obtain ⟨rn,eM,d,A,B⟩:=q;rw[aB]at b4 e7;obtain ⟨i0,i1,rfl⟩:=anG aB;simp only at b4 e7;obtain ⟨b9,ai,e7⟩:=DT.val_bind_some e7;obtain ⟨rJ,fB,b4⟩:=DT.val_bind_some b4;obtain rfl:=aaJ ai fB;clear fB;cases ar:tY eM.toList with
  |none=>rw[ar]at e7;simp[DT.val]at e7
  |some q=>
   obtain ⟨os,o⟩:=q;rw[ar]at b4 e7;simp only at b4 e7;split at e7
   case h_2=>simp[DT.val]at e7
   rename_i T x y U o8 an ax bH;rw[an,ax,bH]at b4;simp only at b4;cases ag:Nat.beq d o8&&Mg y&&Nat.beq U T
   ·rw[ag]at e7;simp[DT.val]at e7
   rw[ag,az]at b4 e7;simp only[bB,Nat.beq_eq]at ag;obtain ⟨⟨rfl,bf⟩,rfl⟩:=ag;obtain rfl:y=.const (.slice none 0 0):=by
    unfold Mg at bf;split at bf
    ·rfl
    ·cases bf
   obtain ⟨dC,aq,e7⟩:=DT.val_bind_some e7;obtain ⟨PE,lb,b4⟩:=DT.val_bind_some b4;obtain rfl:=aaJ aq lb;clear lb;split at e7
   case h_2=>simp[DT.val]at e7
   rename_i t aT aw;rw[aw]at b4;simp only at b4;cases dH:F.cx.isTy U (.list t)
   ·rw[dH]at e7;simp[DT.val]at e7
   rw[dH,az]at b4 e7;obtain ⟨⟨aa4,rK⟩,f1,e7⟩:=DT.val_bind_some e7;obtain ⟨⟨aa7,auU⟩,t1,b4⟩:=DT.val_bind_some b4;simp only at f1 t1 e7 b4;have auo:aa4=.ret:=by cases aa4<;>first |rfl |simp[DT.val]at e7
   have aup:aa7=.ret:=by cases aa7<;>first |rfl |simp[DT.val]at b4
   subst auo aup;obtain ⟨kY,f2,e7⟩:=DT.val_bind_some e7;obtain ⟨z2,t2,b4⟩:=DT.val_bind_some b4;simp only[DT.val,bt,cw]at e7 b4;obtain ⟨rfl,rfl⟩:=e7;obtain ⟨rfl,rfl⟩:=b4;have ach: ∀b,(dC.regs.put d (.dat .bool b)).get d=some (.dat .bool b):=fun b=>by rw[bD.get_put,if_pos rfl]
   refine .inr (.inr (.inl ⟨b9,ai,fun _=> ?_,fun h=>absurd rfl h⟩));refine .inr (.inr (.inr (.inr ⟨os,o,U,x,d,dC,t,aT,⟨Vm ar,an,ax,bH,aq,aw,dH,fun OI=>⟨fun _=> ?_,fun h=>absurd rfl h⟩,⟨fun _=> ?_,fun h=>absurd rfl h⟩⟩⟩)))
   ·have bA:=bY (by rw[OI];rfl);subst bA;exact .inr ⟨d,true,rfl,ach true,fun _=>jy.det ⟨.ret,auU,t1,fun h=>(by cases h),fun _=>⟨.inr rfl,t2⟩⟩,fun h=>by cases h⟩
   ·exact .inr ⟨d,false,rfl,ach false,fun h=>(by cases h),fun _=>jy.det ⟨.nrm,_,rfl,fun _=>jy.det ⟨.ret,rK,f1,.inr rfl,f2⟩,fun h=>absurd rfl h⟩⟩
theorem Zy [Env] {P:Program} {F:a8} (tab:cA P F.cx) (cE:bL P F.Γ) (hm:P.follows .mixedOrders=true) {E:aS} {fn:Func} (aK:P.funcs[E.f]? =some fn) (ag:fn.body=some (bJ fn)) (cF:lP fn E.S E.Z=true) (ao:dF (bJ fn) 0=[]) (cy:eb (bJ fn)=false)
  (ek:F.m=E.S.objs.length) (room:E.S.ty.den->Bool) (out B9:E.S.ty.den->E.Z.ty.den) (n:E.S.ty.den->Nat) (bH: ∀s,E.g s=bif room s then some (out s) else none) (e7: ∀s,(yX F fn E.Z (bJ fn) (E.S.enc s) false).val=bif room s then some (out s,n s) else none)
  (b4: ∀s,(yX F fn E.Z (bJ fn) (E.S.enc s) true).val=some (B9 s,n s)) (bY: ∀s,n s=0->B9 s=out s):cc P E:=by
 intro args H s z ar bA;rw[bH]at bA;cases aA:room s
 ·rw[aA]at bA;cases bA
 ·rw[aA,az]at bA;obtain rfl:=Option.some.inj bA;have abu:=e7 s;rw[aA,az]at abu;exact ape tab cE hm aK ag cF (by rw[ao];simp) cy ek ar (aoA (b4 s) abu (bY s))
open Go.RowKit
abbrev kx (cx:bS) (Γ:gi) (Λ:Nat->bn->DT (dw×bn)) (m:Nat):a8:={cx:=cx,Γ:=Γ,Λ:=Λ,keep:=fun _=>none,m:=m}
def CP [Env] (cx:bS) (Γ:gi) (f:FuncId) (fn:Func) (Δ:gi):gi:=y8 f (Mp (kx cx Γ (fun _ _=>.fail) 0) fn) Δ
section
variable {P:Program}
theorem uG [Env] {F:a8} {nt k:Nat} {c:Code} (h: ∀st,F.Λ k st=.fail):fS P F nt k c:=fun _ st e aW φ ι w a Q _ _ aX=>by rw[h]at aX;cases aX
theorem yo [Env] {f:FuncId} {S Z:Shape}:cc P ⟨f,S,Z,fun _=>none⟩:=fun _ _ _ _ _ h=>by cases h
theorem uQ: ∀(k:Nat) (l m:List ae),eW k l=eW k m->l=m
 |_,[],[],_=>rfl
 |_,[],_::_,h=>by simp[eW]at h
 |_,_::_,[],h=>by simp[eW]at h
 |k,a::l,b::m,h=>by
  simp only[eW,List.cons.injEq,cw,true_and]at h;rw[h.1,uQ (k+1) l m h.2]
theorem agV [Env] {f:FuncId} {fn:Func} (aK:P.funcs[f]? =some fn) (cF:(!(fn.name== "runtime.NumGoroutine")&& !fn.body.isNone)=true) {g:List UInt8->List UInt8->Int}
  (h: ∀(a b:ByteArray) (w:World),Calls P f #[.string a,.string b] w fun e w'=>e=.returned (.int .i64 (g a.data.toList b.data.toList))/\w'=w):
  cc P ⟨f,⟨[(0,.dat .str),(1,.dat .str)],[]⟩,⟨[(0,.dat (.int .i64))],[]⟩,fun s=>some (g s.1 s.2.1,())⟩:=by
 intro args H s z ar bA;have fG:=Shape.dec_enc ar;obtain rfl:=Option.some.inj bA;obtain ⟨a,b,u⟩:=s;have h5:(Shape.enc ⟨[(0,.dat .str),(1,.dat .str)],[]⟩ (a,b,u))=⟨[(0,.dat .str a),(1,.dat .str b)],[]⟩:=rfl;have fG:=h5.symm.trans fG;injection fG with aa ad
 obtain rfl:args=[.dat .str a,.dat .str b]:=(uQ 0 [.dat .str a,.dat .str b] args aa).symm;subst ad;simp only[bB,Bool.not_eq_true']at cF;refine ⟨⟨fn,aK,cF.1,cF.2⟩,fun φ ι w vs dy ej eH eu=> ?_⟩;obtain ⟨v1,cZ,ai,au,v2,cr,aq,aL,hm⟩:=eH;simp only[ae.relT]at hm;subst hm aq;have fB:v1=.string ⟨⟨a⟩⟩:=cf.str.1 au;have lb:v2=.string ⟨⟨b⟩⟩:=cf.str.1 aL;subst fB lb;obtain rfl:vs= #[.string ⟨⟨a⟩⟩,.string ⟨⟨b⟩⟩]:=by cases vs;simp at ai;simp[ai]
 refine (h ⟨⟨a⟩⟩ ⟨⟨b⟩⟩ w).mono ?_;rintro e w' ⟨rfl,rfl⟩;exact ⟨_,φ,ι,rfl,dy,Step.refl _ _ _ _,dA.refl _ _,gC (cf.int.2 rfl),fun i ab=>absurd (show i∈([]:List Nat) from ab) (by simp)⟩
theorem agU [Env] {f:FuncId} {fn:Func} (aK:P.funcs[f]? =some fn) (cF:(!(fn.name== "runtime.NumGoroutine")&& !fn.body.isNone)=true) {g:List UInt8->Int->Int}
  (h: ∀(a:ByteArray) (c:Int) (w:World),Calls P f #[.string a,.int .u8 c] w fun e w'=>e=.returned (.int .i64 (g a.data.toList c))/\w'=w):
  cc P ⟨f,⟨[(0,.dat .str),(1,.dat (.int .u8))],[]⟩,⟨[(0,.dat (.int .i64))],[]⟩,fun s=>some (g s.1 s.2.1,())⟩:=by
 intro args H s z ar bA;have fG:=Shape.dec_enc ar;obtain rfl:=Option.some.inj bA;obtain ⟨a,b,u⟩:=s;have h5:(Shape.enc ⟨[(0,.dat .str),(1,.dat (.int .u8))],[]⟩ (a,b,u))=⟨[(0,.dat .str a),(1,.dat (.int .u8) b)],[]⟩:=rfl;have fG:=h5.symm.trans fG;injection fG with aa ad
 obtain rfl:args=[.dat .str a,.dat (.int .u8) b]:=(uQ 0 [.dat .str a,.dat (.int .u8) b] args aa).symm;subst ad;simp only[bB,Bool.not_eq_true']at cF;refine ⟨⟨fn,aK,cF.1,cF.2⟩,fun φ ι w vs dy ej eH eu=> ?_⟩;obtain ⟨v1,cZ,ai,au,v2,cr,aq,aL,hm⟩:=eH;simp only[ae.relT]at hm;subst hm aq;have fB:v1=.string ⟨⟨a⟩⟩:=cf.str.1 au;have lb:v2=.int .u8 b:=cf.int.1 aL;subst fB lb;obtain rfl:vs= #[.string ⟨⟨a⟩⟩,.int .u8 b]:=by cases vs;simp at ai;simp[ai]
 refine (h ⟨⟨a⟩⟩ b w).mono ?_;rintro e w' ⟨rfl,rfl⟩;exact ⟨_,φ,ι,rfl,dy,Step.refl _ _ _ _,dA.refl _ _,gC (cf.int.2 rfl),fun i ab=>absurd (show i∈([]:List Nat) from ab) (by simp)⟩
end
open Go.RowKit
abbrev j4:=List (Nat×(bn->DT (dw×bn)))
def Ep:j4->Option Nat->Option (bn->DT (dw×bn))
 |_,none=>none
 |[],some _=>none
 |(j,g)::l,some i=>bif Nat.beq i j then some g else Ep l (some i)
def fq [Env] (F:a8) (C:j4):Code->Nat->bn->DT (dw×bn)
 | .seq a b,k,st=>(fq F C a k st).bind fun (e,aW)=>match e with
  | .nrm=>match Ep C (nR b) with
   |some g=>g aW
   |none=>fq F C b k aW
  |e=>.leaf (e,aW)
 | .cond c a b,k,st=>match kS (gB st.regs c) with
  |some t=>match c with
   | .tmp d=>.br t (fq F C a k ⟨refine st.regs d true,st.heap⟩) (fq F C b k ⟨refine st.regs d false,st.heap⟩)
   |_=>.br t (fq F C a k st) (fq F C b k st)
  |none=>.fail
 | .block id c,_,st=>(fq F C c id st).bind fun (e,aW)=>match e with
  | .exit i=>bif Nat.beq i id then .leaf (.nrm,aW) else .leaf (.exit i,aW)
  |e=>.leaf (e,aW)
 | .scope c,k,st=>fq F C c k st
 |c,k,st=>e1 F c k st
def il (C:j4):Code->List ((bn->DT (dw×bn))×Code)
 | .seq a b=>il C a++(match Ep C (nR b) with |some g=>[(g,b)] |none=>il C b)
 | .cond _ a b=>il C a++il C b
 | .block _ c=>il C c
 | .scope c=>il C c
 |_=>[]
def oU (i:Nat):Code->Option Code
 | .seq a b=>match oU i a with
  |some c=>some c
  |none=>match nR b with
   |some j=>bif Nat.beq i j then some b else oU i b
   |none=>oU i b
 | .cond _ a b=>match oU i a with |some c=>some c |none=>oU i b
 | .block _ c=>oU i c
 | .loop c=>oU i c
 | .scope c=>oU i c
 |_=>none
def dZ (c:Code) (i:Nat):Code:=(oU i c).getD .skip
def ic [Env] (P:Program) (F:a8) (n:Nat) (g:bn->DT (dw×bn)) (c:Code):Prop:=
 ∀(nt:hV) (st:bn) (e:dw) (aW:bn) (φ:bw) (ι:Nat->Value) (w:World) (a:Act) (Q:Exit->Act->World->Prop),nt.n=n->hf nt c->(g st).val=some (e,aW)->cO φ ι w nt st a->fC F.m st.heap->
  (∀bd w' φ' ι',cO φ' ι' w' nt aW bd->Step φ ι w st.heap φ' ι' w' aW.heap->gK F.m ι st.heap ι' aW.heap->Q (jA e) bd w')->c.wpIn (ed nt.ro) 0 P Q a w
def yO [Env] (P:Program) (F:a8) (nt:Nat):List ((bn->DT (dw×bn))×Code)->Prop
 |[]=>True
 |q::l=>ic P F nt q.1 q.2/\yO P F nt l
theorem Lk [Env] {P:Program} {F:a8} {nt:Nat} {C:j4} {c:Code} {m:List ((bn->DT (dw×bn))×Code)} (hm:il C c=m) (h:yO P F nt m): ∀q∈il C c,ic P F nt q.1 q.2:=by
 rw[hm];clear hm
 induction m with
 |nil=>intro q aN;cases aN
 |cons p l aO=>
  intro q aN;rcases List.mem_cons.1 aN with rfl |aN
  ·exact h.1
  ·exact aO h.2 q aN
section
variable {P:Program} {nt:hV} {F:a8} {C:j4}
theorem Lf [Env] (tab:cA P F.cx) (cE:bL P F.Γ) (hm:P.follows .mixedOrders=true): ∀(c:Code) (k:Nat) (st:bn) (e:dw) (aW:bn) (φ:bw) (ι:Nat->Value) (w:World) (a:Act) (Q:Exit->Act->World->Prop),(fq F C c k st).val=some (e,aW)->
  (∀q∈dF c k,fS P F nt.n q.1 q.2)->(∀q∈il C c,ic P F nt.n q.1 q.2)->fW nt.n c=true->ih P F nt.n c->hf nt c->cO φ ι w nt st a->fC F.m st.heap->
  (∀bd w' φ' ι',cO φ' ι' w' nt aW bd->Step φ ι w st.heap φ' ι' w' aW.heap->gK F.m ι st.heap ι' aW.heap->Q (jA e) bd w')->c.wpIn (ed nt.ro) 0 P Q a w:=by
 intro c
 induction c with
 |seq x y hP hQ=>
  intro k st e aW φ ι w a Q h ao dc aB cy bZ bV lm cB;simp only[fq]at h;obtain ⟨⟨ai,b9⟩,aa,ad⟩:=DT.val_bind_some h;simp only[fW,bB]at aB;refine wpIn_seq (hP k st ai b9 φ ι w a _ aa (fun q aN=>ao q (by simp[dF,aN])) (fun q aN=>dc q (by simp[il,aN])) aB.1 cy.1 (bZ.of (fun h=>by simp[eb,h]) (fun h=>by simp[fh,h])) bV lm fun bd w' φ' ι' cu sp bG=> ?_);cases ai with
  |nrm=>
   simp only at ad;cases bH:Ep C (nR y) with
   |some g=>
    rw[bH]at ad;exact dc (g,y) (by simp[il,bH]) nt b9 e aW φ' ι' w' bd Q rfl (bZ.of (fun h=>by simp[eb,h]) (fun h=>by simp[fh,h])) ad cu (bG.live lm) fun a2 c9 dv dz iH nH lz=>cB a2 c9 dv dz iH (sp.trans nH) (bG.trans lz)
   |none=>
    rw[bH]at ad;exact hQ k b9 e aW φ' ι' w' bd Q ad (fun q aN=>ao q (by simp[dF,aN])) (fun q aN=>dc q (by simp[il,bH,aN])) aB.2 cy.2 (bZ.of (fun h=>by simp[eb,h]) (fun h=>by simp[fh,h])) cu (bG.live lm) fun a2 c9 dv dz iH nH lz=>cB a2 c9 dv dz iH (sp.trans nH) (bG.trans lz)
  |exit i=>
   simp only[DT.val,bt,cw]at ad;obtain ⟨rfl,rfl⟩:=ad;exact cB bd w' φ' ι' cu sp bG
  |ret=>
   simp only[DT.val,bt,cw]at ad;obtain ⟨rfl,rfl⟩:=ad;exact cB bd w' φ' ι' cu sp bG
 |cond c x y hP hQ=>
  intro k st e aW φ ι w a Q h ao dc aB cy bZ bV lm cB;simp only[fq]at h;simp only[fW,bB]at aB;split at h
  ·rename_i t aU;have aX:=Kh aU (bV.eval c).1;refine wpIn_cond aX ?_;have key: ∀(fx:bn),cO φ ι w nt fx a->fx.heap=st.heap->(bif t then (fq F C x k fx).val else (fq F C y k fx).val)=some (e,aW)->(if t then x else y).wpIn (ed nt.ro) 0 P Q a w:=by
    intro fx im bC h;rw[<-bC]at lm cB;cases t
    ·simp only[aM]at h;simp only[Bool.false_eq_true,if_false];exact hQ k fx e aW φ ι w a Q h (fun q aN=>ao q (by simp[dF,aN])) (fun q aN=>dc q (by simp[il,aN])) aB.2 cy.2 (bZ.of (fun h=>by simp[eb,h]) (fun h=>by simp[fh,h])) im lm cB
    ·simp only[az]at h;simp only[if_true];exact hP k fx e aW φ ι w a Q h (fun q aN=>ao q (by simp[dF,aN])) (fun q aN=>dc q (by simp[il,aN])) aB.1 cy.1 (bZ.of (fun h=>by simp[eb,h]) (fun h=>by simp[fh,h])) im lm cB
   split at h
   ·rename_i d;have bo:st.regs.get d=some (.dat .bool t):=by
     simp only[gB]at aU;cases ph:Nat.beq d c1 with
     |true=>simp[ph,kS]at aU
     |false=>
     simp only[ph,aM]at aU;cases ax:st.regs.get d with
     |none=>rw[ax]at aU;simp[kS]at aU
     |some r=>
      rw[ax]at aU;have:=Ca (R:=st.regs) (d:=d) (b:=t) (by rw[ax];exact aU);rw[ax]at this;exact this
    have im:cO φ ι w nt ⟨refine st.regs d t,st.heap⟩ a:=bV.regs_eq (rH bo);refine key ⟨refine st.regs d t,st.heap⟩ im rfl ?_;cases t
    ·simp only[DT.val,aM]at h ⊢;exact h
    ·simp only[DT.val,az]at h ⊢;exact h
   ·exact key st bV rfl (by simpa only[DT.val] using h)
  ·simp[DT.val]at h
 |block id c aO=>
  intro k st e aW φ ι w a Q h ao dc aB cy bZ bV lm cB;simp only[fq]at h;obtain ⟨⟨ai,b9⟩,aa,ad⟩:=DT.val_bind_some h;refine wpIn_block (aO id st ai b9 φ ι w a _ aa (fun q aN=>ao q (by simpa [dF] using aN)) (fun q aN=>dc q (by simpa [il] using aN)) aB cy (bZ.of (fun h=>by simpa [eb] using h) (fun h=>by simpa [fh] using h)) bV lm fun bd w' φ' ι' cu sp bG=> ?_);cases ai with
  |nrm=>
   simp only[DT.val,bt,cw]at ad;obtain ⟨rfl,rfl⟩:=ad;exact cB bd w' φ' ι' cu sp bG
  |exit i=>
   simp only at ad;cases ag:Nat.beq i id
   ·simp only[ag,aM,DT.val,bt,cw]at ad;obtain ⟨rfl,rfl⟩:=ad;have cp: ¬i=id:=fun h=>by subst h;simp at ag
    simp only[jA,Exit.inBlock,if_neg cp];exact cB bd w' φ' ι' cu sp bG
   ·simp only[ag,az,DT.val,bt,cw]at ad;obtain ⟨rfl,rfl⟩:=ad;have:i=id:=by simpa using ag
    simp only[jA,Exit.inBlock,if_pos this];exact cB bd w' φ' ι' cu sp bG
  |ret=>
   simp only[DT.val,bt,cw]at ad;obtain ⟨rfl,rfl⟩:=ad;exact cB bd w' φ' ι' cu sp bG
 |scope c aO=>
  intro k st e aW φ ι w a Q h ao dc aB cy bZ bV lm cB;simp only[fq]at h;refine Yk (aO k st e aW φ ι w a _ h (fun q aN=>ao q (by simpa [dF] using aN)) (fun q aN=>dc q (by simpa [il] using aN)) aB cy (bZ.of (fun h=>by simpa [eb] using h) (fun h=>by simpa [fh] using h)) bV lm fun bd w' φ' ι' cu sp bG=> ?_);have:=cB bd w' φ' ι' cu sp bG;cases e<;>exact this
 |_=>
  intro k st e aW φ ι w a Q h ao dc aB cy bZ bV lm cB;exact l5 tab cE hm _ k st e aW φ ι w a Q (by simpa only[fq] using h) ao aB cy bZ bV lm cB
theorem kg [Env] {n:Nat} (tab:cA P F.cx) (cE:bL P F.Γ) (hm:P.follows .mixedOrders=true) {L:bq} {c:Code} {k:Nat} {f:L.S.ty.den->Option L.Out} {l:List (Nat×Code)} {m:List ((bn->DT (dw×bn))×Code)} (ao:dF c k=l) (ds:mX P F n l) (dc:il C c=m) (pg:yO P F n m) (aB:fW n c=true) (cy:ih P F n c)
  (aK: ∀s,((fq F C c k (L.S.enc s)).bind fun (e,st)=>L.out F.m e st).val=f s):ic P F n (L.go f F.m) c:=by
 intro nt st e aW φ ι w a Q aQ bZ h bV lm cB;subst aQ;unfold bq.go at h;obtain ⟨s,ai,aq⟩:=DT.val_bind_some h;obtain ⟨cT,er,a1,k2,b8,dD,gb⟩:=j9 ai bV lm;obtain ⟨o,an,he⟩: ∃o,f s=some o/\(e,aW)=L.fin o:=by
  cases iA:f s with
  |none=>simp[iA,DT.val]at aq
  |some o=>
   refine ⟨o,rfl,?_⟩;cases o with
   |inl x=>simp only[iA,DT.val,bt]at aq;exact aq.symm
   |inr y=>simp only[iA,DT.val,bt]at aq;exact aq.symm
 have ag:=(aK s).trans an;obtain ⟨⟨bc,w6⟩,aa,ad⟩:=DT.val_bind_some ag;refine Lf tab cE hm c k _ bc w6 cT er w a _ aa (sd ao ds) (Lk dc pg) aB cy bZ a1 (b8.live lm) fun bd w' φ' ι' cu sp bG=> ?_
 obtain ⟨kK,dv,dz,cZ,cr,ey⟩:=bq.out_sound ad cu (bG.live (b8.live lm));have qW:e=(L.fin o).1/\aW=(L.fin o).2:=by rw[<-he];exact ⟨rfl,rfl⟩
 rw[kK];have:=cB bd w' dv dz;rw[qW.1,qW.2]at this;exact this cZ ((k2.trans sp).trans cr) ((b8.trans bG).trans ey)
end
open Go.RowKit
def qu [Env] (F:a8) (C:j4) (fn:Func) (S Z:Shape) (s:S.ty.den):DT Z.ty.den:=
 (fq F C (fn.body.getD .skip) 0 (S.enc s)).bind fun (e,st)=>match e with
  | .exit _=>.fail
  |_=>((kn F.cx st.regs 0 fn.results.toList).run st.heap st.heap.length .none).bind fun (R,h,_,_)=>Z.take F.m ⟨R,h⟩
def bq.bodyK [Env] (L:bq) (F:a8) (C:j4) (c:Code) (k:Nat) (s:L.S.ty.den):DT (L.S.ty.den⊕L.Out):=
 (fq F C c k (L.S.enc s)).bind fun (e,st)=>match e with
  | .nrm=>(L.S.take F.m st).bind fun s=>.leaf (.inl s)
  |e=>(L.out F.m e st).bind fun o=>.leaf (.inr o)
section
variable {P:Program} {cx:bS} {Γ:gi} {φ:bw} {ι:Nat->Value} {w:World} {nt:hV} {st aW:bn} {a:Act} {H:List aG}
theorem anW [Env] {F:a8} {C:j4} (tab:cA P F.cx) (cE:bL P F.Γ) (hm:P.follows .mixedOrders=true) {L:bq} {c:Code} {k:Nat} {f:L.S.ty.den->Option L.Out} (l3:F.Λ k=L.go f F.m) {n:Nat} (ds: ∀q∈dF c k,fS P F n q.1 q.2) (pg: ∀q∈il C c,ic P F n q.1 q.2) (aB:fW n c=true) (cy:ih P F n c)
  (aK: ∀s o,f s=some o-> ∃n,dR (fun s=>(L.bodyK F C c k s).val) n s=some o):fS P F n k c:=by
 intro nt st e aW φ ι w a Q aQ bZ h bV lm cB;subst aQ;rw[l3]at h;unfold bq.go at h;obtain ⟨s,ai,aq⟩:=DT.val_bind_some h;obtain ⟨cT,er,a1,k2,b8,dD,gb⟩:=j9 ai bV lm;obtain ⟨o,an,he⟩: ∃o,f s=some o/\(e,aW)=L.fin o:=by
  cases iA:f s with
  |none=>simp[iA,DT.val]at aq
  |some o=>
   refine ⟨o,rfl,?_⟩;cases o with
   |inl x=>simp only[iA,DT.val,bt]at aq;exact aq.symm
   |inr y=>simp only[iA,DT.val,bt]at aq;exact aq.symm
 obtain ⟨n,aQ⟩:=aK s o an;refine wpIn_loop_rounds n ?_;have key: ∀n s φ ι w a,dR (fun s=>(L.bodyK F C c k s).val) n s=some o->cO φ ι w nt (L.S.enc s) a->fC F.m (L.S.enc s).heap->
   (∀bd w' φ' ι',cO φ' ι' w' nt (L.fin o).2 bd->Step φ ι w (L.S.enc s).heap φ' ι' w' (L.fin o).2.heap->gK F.m ι (L.S.enc s).heap ι' (L.fin o).2.heap->Q (jA (L.fin o).1) bd w')->Code.roundsIn (ed nt.ro) 0 P c Q n a w:=by
  intro n
  induction n with
  |zero=>intro s φ ι w a h;cases h
  |succ n aO=>
   intro s φ ι w a h bV lm cB;simp only[dR]at h;rw[roundsIn_succ];cases ag:(L.bodyK F C c k s).val with
   |none=>simp[ag]at h
   |some r=>
    simp only[ag]at h;have gD:=ag;unfold bq.bodyK at gD;obtain ⟨⟨ai,b9⟩,aa,ad⟩:=DT.val_bind_some gD;refine Lf tab cE hm c k _ ai b9 φ ι w a _ aa ds pg aB cy (bZ.of (fun h=>h) (fun h=>h)) bV lm fun bd w' φ' ι' cu sp bG=> ?_
    by_cases lk:ai=.nrm
    ·subst lk;obtain ⟨t,al,aE⟩:=DT.val_bind_some ad;simp only[DT.val,bt]at aE;subst aE;simp only at h;obtain ⟨dv,dz,cZ,cr,ey,ki,oj⟩:=j9 al cu (bG.live lm);exact aO t dv dz w' bd h cZ (ey.live (bG.live lm)) fun a2 c9 k0 kZ Bh PD O2=>cB a2 c9 k0 kZ Bh ((sp.trans cr).trans PD) ((bG.trans ey).trans O2)
    ·rw[Za lk];have aZ:((L.out F.m ai b9).bind fun o=>DT.leaf (Sum.inr (α:=L.S.ty.den) o)).val=some r:=by
      cases ai with
      |nrm=>exact absurd rfl lk
      |exit i=>exact ad
      |ret=>exact ad
     obtain ⟨ib,al,aE⟩:=DT.val_bind_some aZ;simp only[DT.val,bt]at aE;subst aE;simp only[bt]at h;subst h;obtain ⟨kK,dv,dz,cZ,cr,ey⟩:=bq.out_sound al cu (bG.live lm);rw[kK];exact cB bd w' dv dz cZ (sp.trans cr) (bG.trans ey)
 have qW:e=(L.fin o).1/\aW=(L.fin o).2:=by rw[<-he];exact ⟨rfl,rfl⟩
 refine key n s cT er w a aQ a1 (b8.live lm) fun bd w' φ' ι' cu sp bG=> ?_
 have:=cB bd w' φ' ι';rw[qW.1,qW.2]at this;exact this cu (k2.trans sp) (b8.trans bG)
theorem apg [Env] {F:a8} {C:j4} (tab:cA P F.cx) (cE:bL P F.Γ) (hm:P.follows .mixedOrders=true) {f:FuncId} {fn:Func} {c:Code} {S Z:Shape} (aK:P.funcs[f]? =some fn) (ag:fn.body=some c) (cF:lP fn S Z=true) (ds: ∀q∈dF c 0,fS P F fn.ntmps q.1 q.2) (pg: ∀q∈il C c,ic P F fn.ntmps q.1 q.2) (cy:ih P F fn.ntmps c)
  {args:List ae} (ek:F.m=S.objs.length) {s:S.ty.den} {z:Z.ty.den} (ar:S.dec ⟨eW 0 args,H⟩=some s) (e:(qu F C fn S Z s).val=some z):iL P f args H (iK (Z.enc z).regs) (Z.enc z).heap:=by
 have fG:=Shape.dec_enc ar;simp only[lP,ag,bB,Bool.not_eq_true',dd]at cF;obtain ⟨⟨⟨⟨⟨⟨mH,ik⟩,gF⟩,gR⟩,lX⟩,lY⟩,lZ⟩:=cF;have gF:=Nat.le_of_ble_eq_true gF;have gR:=Nat.le_of_ble_eq_true gR;have hn:args.length=S.regs.length/\H.length=S.objs.length:=by
  unfold Shape.dec at ar;simp only at ar;cases aR:hD S.regs (eW 0 args) with
  |none=>simp[aR]at ar
  |some x=>
   cases ag:eX S.objs H with
   |none=>simp[aR,ag]at ar
   |some y=>
    refine ⟨by rw[<-xa _ _ _ aR,(mD args 0).2.1],?_⟩;have: ∀(s:List dn) (R:List aG) (l:List dM),eX s R=some l->R.length=s.length:=by
     intro s
     induction s with
     |nil=>intro R l h;cases R<;>simp[eX]at h ⊢
     |cons a s aO=>
      intro R l h;cases R with
      |nil=>simp[eX]at h
      |cons b R=>
       simp only[eX]at h;split at h
       ·obtain ⟨b,ag,-⟩:=Option.map_eq_some_iff.1 h;simp[aO R b ag]
       ·cases h
    exact this _ _ _ ag
 unfold qu at e;rw[ag]at e;simp only[Option.getD_some]at e;obtain ⟨⟨ai,b9⟩,aa,ad⟩:=DT.val_bind_some e;have al:ai=.nrm\/ai=.ret:=by
  cases ai with
  |nrm=>exact .inl rfl
  |ret=>exact .inr rfl
  |exit i=>simp[DT.val]at ad
 have aE:(((kn F.cx b9.regs 0 fn.results.toList).run b9.heap b9.heap.length .none).bind fun (R,h,_,_)=>Z.take F.m ⟨R,h⟩).val=some z:=by
  rcases al with rfl |rfl<;>exact ad
 obtain ⟨⟨R,aZ,kR,ry⟩,bu,dq⟩:=DT.val_bind_some aE;have ix:=HM.go_run _ _ _ _ _ _ _ _ bu;have jn:(Z.enc z).regs.map (·.1)=List.range' 0 fn.results.size:=by
  obtain ⟨⟨aW,bC,wJ,pp⟩,a1,k2⟩:=DT.val_bind_some dq;simp only[DT.val_ofOpt]at k2;have b8:(Z.enc z).regs.map (·.1)=Z.regs.map (·.1):=by
   unfold Shape.dec at k2;cases aR:hD Z.regs aW.regs with
   |none=>simp[aR]at k2
   |some x=>
    cases ag:eX Z.objs aW.heap with
    |none=>simp[aR,ag]at k2
    |some y=>
     have:=pL _ _ x [] aR;rw[Shape.dec_enc (st:=aW) (by simp only[Shape.dec,aR,ag]at k2 ⊢;exact k2)];exact tD _ _ _ _ this
  rw[b8,lZ]
 refine ⟨⟨fn,aK,lX,by rw[ag];rfl⟩,?_⟩
 ·intro φ ι w vs dy ej eH eu;refine u1 aK ag ?_;have dK:vs.size=args.length:=by
   have: ∀(l:List ae) (vs:List Value),ae.relT φ ι w l vs->vs.length=l.length:=by
    intro l
    induction l with
    |nil=>intro vs h;simp only[ae.relT]at h;simp[h]
    |cons r l aO=>intro vs h;obtain ⟨v,m,rfl,-,h⟩:=h;simp[aO m h]
   simpa using this _ _ eH
  have di:vs.size<=fn.ntmps:=by
   rw[dK,hn.1];exact Nat.le_of_ble_eq_true lY
  have jY:cO φ ι w ⟨fn.ntmps,w.heap.size,[],none,false⟩ (S.enc s) {tmps:=vs++Array.replicate (fn.ntmps-vs.size) undef,defers:=[]}:=by
   rw[fG];refine ⟨dy,fun d r ax=> ?_,by simp;omega,gF,mf (Nat.le_refl _)⟩;obtain ⟨a1,k2,b8⟩:=mD args 0;obtain ⟨k,av,gq⟩:=lA _ 0 d r (by rw[a1,k2]) ax;have fF:d=k:=by omega
   subst fF;have bo:=b8 d (d,r) gq;simp only at bo;obtain ⟨v,aX,hO⟩:=rU eH bo;have ee:vs[d]? =some v:=by simpa using aX
   have kc:d<vs.size:=(Array.getElem?_eq_some_iff.1 ee).1;have:(vs++Array.replicate (fn.ntmps-vs.size) undef).getD d undef=v:=by
    rw[Array.getD_eq_getD_getElem?,Array.getElem?_append_left kc,ee];rfl
   rw[hp (by omega),this];exact ⟨hO,fun i ab=>eu i (rX bo i ab)⟩
  have nr:(S.enc s).heap=H:=by rw[fG]
  have h9:fC F.m (S.enc s).heap:=by
   rw[nr,ek,<-hn.2];exact fun o an=>ej o an
  refine Lf tab cE hm c 0 _ ai b9 φ ι w _ _ aa ds pg mH cy (hf.fn ik) jY h9 fun bd w' φ' ι' cu sp bG=> ?_
  rw[nr]at sp;refine BR al cu sp fun w' cu sp=> ?_
  have jU:=bG.live h9;obtain ⟨bj,bU,us,da,c8,fk,gv⟩:=tN tab fn.results.toList 0 R b9.heap _ aZ kR ix cu.heap cu.regs;have kF:R.length=us.length:=by
   have:=congrArg List.length fk;simpa [c8] using this
  have iH:cO φ' ι' w' ⟨us.toArray.size,0,[],none,false⟩ ⟨R,aZ⟩ {tmps:=us.toArray,defers:=[]}:=by
   rw[bj];refine ⟨cu.heap,fun d r ax=> ?_,rfl,by rw[List.size_toArray,c8];simpa using gR,mf (Nat.zero_le _)⟩;obtain ⟨k,av,gq⟩:=lA R 0 d r (by rw[fk];congr 1;omega) ax;have fF:d=k:=by omega
   subst fF;obtain ⟨v,aX,hO,ft⟩:=gv d (d,r) gq;have:us.toArray.getD d undef=v:=by simp[Array.getD_eq_getD_getElem?,aX]
   have kc:d<us.length:=(List.getElem?_eq_some_iff.1 aX).1;have Oj:fn.results.toList.length=fn.results.size:=by simp
   rw[hp (by omega)];simp only[this];exact ⟨hO,ft⟩
  obtain ⟨dv,dz,cZ,cr,ey,ki,oj⟩:=j9 dq iH (by rw[bj];exact jU);have gm:(Z.enc z).regs.length=us.toArray.size:=by
   have:=congrArg List.length jn;simp only[List.length_map,List.length_range']at this;rw[this];simp[c8]
  obtain ⟨au,aL⟩:=so (vs:=us.toArray) (R:=(Z.enc z).regs) (by rw[jn];congr 1;simpa [c8] using gm.symm) gm (uF (a:={tmps:=us.toArray,defers:=[]}) (by rw[jn];congr 1;simpa [c8] using gm.symm) (by rw[gm,List.size_toArray,c8];simpa using gR) cZ.regs);have kN:=tP da;refine ⟨_,kN,_,dv,dz,rfl,cZ.heap,?_,?_,au,aL⟩
  ·rw[bj]at cr;exact sp.trans cr
  ·rw[nr]at bG;rw[bj]at ey;have hr:=bG.trans ey;refine ⟨fun o an=> ?_,fun o an=> ?_⟩
   ·have bb:o<F.m:=by rw[ek,<-hn.2];exact fo an
    exact (hr o bb an).1
   ·have bb:o<F.m:=by rw[ek,<-hn.2];exact fo an
    exact (hr o bb an).2
end
theorem aoV [Env] {P:Program} {F:a8} {C:j4} {nt:Nat} (tab:cA P F.cx) (cE:bL P F.Γ) (hm:P.follows .mixedOrders=true) {L:bq} {c:Code} {k:Nat} {b:L.S.ty.den->Option (L.S.ty.den⊕L.Out)} {f:L.S.ty.den->Option L.Out} (NU: ∀s,f s=bN b s) (l3:F.Λ k=L.go f F.m)
  {l:List (Nat×Code)} {m:List ((bn->DT (dw×bn))×Code)} (hN:dF c k=l) (ds:mX P F nt l) (s0:il C c=m) (pg:yO P F nt m) (aB:fW nt c=true) (cy:ih P F nt c) (ag: ∀s,(L.bodyK F C c k s).val=b s):fS P F nt k c:=by
 refine anW (C:=C) tab cE hm l3 (sd hN ds) (Lk s0 pg) aB cy fun s o h=> ?_
 rw[NU]at h;obtain ⟨n,aQ⟩:=KH h;exact ⟨n,by rw[show (fun s=>(L.bodyK F C c k s).val)=b from funext ag];exact aQ⟩
theorem x9 [Env] {P:Program} {F:a8} {C:j4} (tab:cA P F.cx) (cE:bL P F.Γ) (hm:P.follows .mixedOrders=true) {E:aS} {fn:Func} (aK:P.funcs[E.f]? =some fn) (ag:fn.body=some (bJ fn)) (cF:lP fn E.S E.Z=true)
  {l:List (Nat×Code)} {m:List ((bn->DT (dw×bn))×Code)} (hN:dF (bJ fn) 0=l) (ds:mX P F fn.ntmps l) (s0:il C (bJ fn)=m) (pg:yO P F fn.ntmps m) (cy:ih P F fn.ntmps (bJ fn)) (ek:F.m=E.S.objs.length) (bH: ∀s,(qu F C fn E.S E.Z s).val=E.g s):cc P E:=
 fun args H s z ar bA=>apg tab cE hm aK ag cF (sd hN ds) (Lk s0 pg) cy ek ar ((bH s).trans bA)
end Go.X
