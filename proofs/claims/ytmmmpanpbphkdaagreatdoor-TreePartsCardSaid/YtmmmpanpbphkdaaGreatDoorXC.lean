import Derived.Test.YtmmmpanpbphkdaaGreatDoorXB
import Derived.ProofKit
import Derived.OpenShut
import Derived.DataElems
import Derived.SizedLaws
import Derived.WalkKit
import Derived.ShutString
import Derived.Laws.StructEq
import Derived.Lib.Strings
import Derived.Lib.Slices
import Derived.Lib.Walk
import Derived.Lib.Bytealg
set_option linter.unusedVariables false
set_option linter.unusedSimpArgs false
namespace Go.X
open Go.RowKit
def ea (p q:cI):cI:=⟨q.rd++p.rd,q.fz++p.fz,q.wr++p.wr⟩
theorem Zp {α:Type} (x:HM α): ∀(h:List aG) (n:Nat) (p:cI),(x.run h n p).val=(x.run h n .none).val.map fun r=>(r.1,r.2.1,r.2.2.1,ea p r.2.2.2):=by
 induction x with
 |ret a=>intro h n p;simp[HM.run,DT.val,ea,cI.none]
 |fail=>intro h n p;simp[HM.run,DT.val]
 |br b x y hM hN=>intro h n p;cases b<;>simp[HM.run,DT.val]<;>first |exact hM h n p |exact hN h n p
 |opt o k aO=>intro h n p;cases o<;>simp[HM.run,DT.val];exact aO _ h n p
 |alt o k l nr s0=>
  intro h n p;cases o with
  |none=>simp[HM.run,DT.val]
  |some r=>cases r<;>simp[HM.run,DT.val]<;>first |exact nr _ h n p |exact s0 _ h n p
 |rdc o k aO=>
  intro h n p;simp only[HM.run];rw[aO _ h n ⟨o::p.rd,p.fz,p.wr⟩,aO _ h n ⟨o::cI.none.rd,cI.none.fz,cI.none.wr⟩,Option.map_map];congr 1;funext r;simp[ea,cI.none]
 |frz o k aO=>
  intro h n p;simp only[HM.run];rw[aO _ n ⟨p.rd,o::p.fz,p.wr⟩,aO _ n ⟨cI.none.rd,o::cI.none.fz,cI.none.wr⟩,Option.map_map];congr 1;funext r;simp[ea,cI.none]
 |rdw o k aO=>
  intro h n p;simp only[HM.run];rw[aO _ h n ⟨p.rd,p.fz,o::p.wr⟩,aO _ h n ⟨cI.none.rd,cI.none.fz,o::cI.none.wr⟩,Option.map_map];congr 1;funext r;simp[ea,cI.none]
 |wr o b k aO=>
  intro h n p;simp only[HM.run];rw[aO _ n ⟨p.rd,p.fz,o::p.wr⟩,aO _ n ⟨cI.none.rd,cI.none.fz,o::cI.none.wr⟩,Option.map_map];congr 1;funext r;simp[ea,cI.none]
 |nw b k aO=>
  intro h n p;simp only[HM.run];rw[aO _ _ _ ⟨p.rd,p.fz,n::p.wr⟩,aO _ _ _ ⟨cI.none.rd,cI.none.fz,n::cI.none.wr⟩,Option.map_map];congr 1;funext r;simp[ea,cI.none]
 |nxt k aO=>intro h n p;simp only[HM.run];exact aO _ h n p
theorem xP {α:Type} {x:HM α} {h:List aG} {n:Nat} {p:cI} {a:α} {ca:List aG} {aI:Nat} {q:cI} (e:(x.run h n p).val=some (a,ca,aI,q)): ∃bh,(x.run h n .none).val=some (a,ca,aI,bh)/\q=ea p bh:=by
 rw[Zp]at e;obtain ⟨⟨en,aa,cC,bh⟩,ai,aq⟩:=Option.map_eq_some_iff.1 e;simp only[ct]at aq;obtain ⟨rfl,rfl,rfl,rfl⟩:=aq;exact ⟨bh,ai,rfl⟩
theorem xW {α:Type} {x:HM α} {h:List aG} {n:Nat} {p:cI} {a:α} {ca:List aG} {aI:Nat} {bh:cI} (e:(x.run h n .none).val=some (a,ca,aI,bh)):(x.run h n p).val=some (a,ca,aI,ea p bh):=by
 rw[Zp,e];rfl
structure pY (L:Nat) (q:cI):Prop where
 rd: ∀o∈q.rd,o<L
 fz: ∀o∈q.fz,o<L
 wr: ∀o∈q.wr,o<L
theorem pY.of {L:Nat} {q:cI} (h:D7 L q=true):pY L q:=by
 simp only[D7,bB,List.all_eq_true]at h;exact ⟨fun o an=>by simpa using h.1.1 o an,fun o an=>by simpa using h.1.2 o an,fun o an=>by simpa using h.2 o an⟩
theorem pY.tail {L:Nat} {p q:cI} (h:pY L (ea p q)):pY L q:=⟨fun o an=>h.rd o (List.mem_append.2 (.inl an)),fun o an=>h.fz o (List.mem_append.2 (.inl an)),fun o an=>h.wr o (List.mem_append.2 (.inl an))⟩
def k8 (b:Prop) [Decidable b] (x:aG):aG:=if b then x.freeze else x
theorem akb (b:aG):b.freeze.freeze=b.freeze:=by cases b<;>rfl
theorem JF (b:aG):b.freeze.mask=b.mask:=by cases b<;>rfl
theorem Xe {p:Prop} [Decidable p] (b:aG):(k8 p b).mask=b.mask:=by unfold k8;split<;>simp[JF]
structure HJ (h:List aG) (q:cI) (ca:List aG):Prop where
 len:ca.length=h.length
 other: ∀o,o∉q.wr->aF ca o=k8 (o∈q.fz) (aF h o)
theorem C0 {α:Type} (x:HM α): ∀(h ad:List aG) (n:Nat) (a:α) (ca:List aG) (aI:Nat) (q:cI),(x.run h n .none).val=some (a,ca,aI,q)->pY h.length q->ad.length=h.length->
  (∀o∈q.rd,(aF h o).mask=(aF ad o).mask)->(∀o∈q.wr,aF h o=aF ad o)->
  ∃gL,(x.run ad n .none).val=some (a,gL,aI,q)/\HJ h q ca/\HJ ad q gL/\ ∀o∈q.wr,aF gL o=aF ca o:=by
 induction x with
 |ret a=>
  intro h ad n b ca aI q e lt ao az hw;simp only[HM.run,DT.val,bs,ct]at e;obtain ⟨rfl,rfl,rfl,rfl⟩:=e;exact ⟨ad,rfl,⟨rfl,fun o _=>by simp[k8,cI.none]⟩,⟨rfl,fun o _=>by simp[k8,cI.none]⟩,fun o an=>by simp[cI.none]at an⟩
 |fail=>intro h ad n b ca aI q e;simp[HM.run,DT.val]at e
 |br b x y hM hN=>
  intro h ad n a ca aI q e lt ao az hw;cases b
  ·exact hN h ad n a ca aI q e lt ao az hw
  ·exact hM h ad n a ca aI q e lt ao az hw
 |opt o k aO=>
  intro h ad n a ca aI q e lt ao az hw;cases o with
  |none=>simp[HM.run,DT.val]at e
  |some r=>exact aO r h ad n a ca aI q e lt ao az hw
 |alt o k l nr s0=>
  intro h ad n a ca aI q e lt ao az hw;cases o with
  |none=>simp[HM.run,DT.val]at e
  |some r=>cases r with
   |inl r=>exact nr r h ad n a ca aI q e lt ao az hw
   |inr r=>exact s0 r h ad n a ca aI q e lt ao az hw
 |rdc o k aO=>
  intro h ad n a ca aI q e lt ao az hw;simp only[HM.run]at e;obtain ⟨bh,ai,rfl⟩:=xP e;have an:(aF h o).mask=(aF ad o).mask:=az o (by simp[ea]);obtain ⟨gL,ar,aM,bF,cT⟩:=aO _ h ad n a ca aI bh ai lt.tail ao (fun i ab=>az i (by simp[ea,ab])) (fun i ab=>hw i (by simp[ea,ab]));refine ⟨gL,?_,⟨aM.len,fun i ab=> ?_⟩,⟨bF.len,fun i ab=> ?_⟩,fun i ab=>cT i (by simpa [ea,cI.none] using ab)⟩
  ·simp only[HM.run];rw[<-an];exact xW ar
  ·have:=aM.other i (by simpa [ea,cI.none] using ab);simpa [ea,cI.none] using this
  ·have:=bF.other i (by simpa [ea,cI.none] using ab);simpa [ea,cI.none] using this
 |frz o k aO=>
  intro h ad n a ca aI q e lt ao az hw;simp only[HM.run]at e;obtain ⟨bh,ai,rfl⟩:=xP e;have zQ:o<h.length:=lt.fz o (by simp[ea]);have dd:=gK h o (aF h o).freeze zQ;have cM:=gK ad o (aF ad o).freeze (by omega);have g1:=fun i=>fk h o (aF h o).freeze i (by omega)
  have g2:=fun i=>fk ad o (aF ad o).freeze i (by omega)
  obtain ⟨gL,ar,aM,bF,cT⟩:=aO _ (bL ad o (aF ad o).freeze) n a ca aI bh ai (by rw[dd];exact lt.tail) (by omega) (fun i ab=>by
    have:=az i (by simp[ea,ab]);rw[g1,g2];split
    ·rename_i h;subst h;rw[JF,JF];exact this
    ·exact this) (fun i ab=>by
    have:=hw i (by simp[ea,ab]);rw[g1,g2];split
    ·rename_i h;subst h;rw[this]
    ·exact this)
  have fin: ∀{x oy:List aG},(∀i,aF (bL x o (aF x o).freeze) i=if i=o then (aF x o).freeze else aF x i)->(∀i,i∉bh.wr->aF oy i=k8 (i∈bh.fz) (aF (bL x o (aF x o).freeze) i))->
    ∀i,i∉(ea ⟨cI.none.rd,o::cI.none.fz,cI.none.wr⟩ bh).wr->aF oy i=k8 (i∈(ea ⟨cI.none.rd,o::cI.none.fz,cI.none.wr⟩ bh).fz) (aF x i):=by
   intro x oy g r i ab;rw[r i (by simpa [ea,cI.none] using ab),g];by_cases hJ:i=o
   ·subst hJ;simp only[if_true,ea,cI.none,k8];simp[akb]
   ·simp[ea,cI.none,k8,hJ]
  refine ⟨gL,?_,⟨aM.len.trans dd,fin g1 aM.other⟩,⟨bF.len.trans cM,fin g2 bF.other⟩,fun i ab=>cT i (by simpa [ea,cI.none] using ab)⟩;simp only[HM.run];exact xW ar
 |rdw o k aO=>
  intro h ad n a ca aI q e lt ao az hw;simp only[HM.run]at e;obtain ⟨bh,ai,rfl⟩:=xP e;have an:aF h o=aF ad o:=hw o (by simp[ea]);obtain ⟨gL,ar,aM,bF,cT⟩:=aO _ h ad n a ca aI bh ai lt.tail ao (fun i ab=>az i (by simp[ea,ab])) (fun i ab=>hw i (by simp[ea,ab]));refine ⟨gL,?_,⟨aM.len,fun i ab=> ?_⟩,⟨bF.len,fun i ab=> ?_⟩,fun i ab=> ?_⟩
  ·simp only[HM.run];rw[<-an];exact xW ar
  ·simp only[ea,cI.none,List.mem_append,List.mem_cons,List.not_mem_nil,or_false,not_or]at ab;have:=aM.other i ab.1;simpa [ea,cI.none] using this
  ·simp only[ea,cI.none,List.mem_append,List.mem_cons,List.not_mem_nil,or_false,not_or]at ab;have:=bF.other i ab.1;simpa [ea,cI.none] using this
  ·by_cases fG:i∈bh.wr
   ·exact cT i fG
   ·rw[bF.other i fG,aM.other i fG,hw i ab]
 |wr o b k aO=>
  intro h ad n a ca aI q e lt ao az hw;simp only[HM.run]at e;obtain ⟨bh,ai,rfl⟩:=xP e;have zQ:o<h.length:=lt.wr o (by simp[ea]);have dd:=gK h o b zQ;have cM:=gK ad o b (by omega);have g1:=fun i=>fk h o b i (by omega)
  have g2:=fun i=>fk ad o b i (by omega)
  obtain ⟨gL,ar,aM,bF,cT⟩:=aO _ (bL ad o b) n a ca aI bh ai (by rw[dd];exact lt.tail) (by omega) (fun i ab=>by
    have:=az i (by simp[ea,ab]);rw[g1,g2];split
    ·rfl
    ·exact this) (fun i ab=>by
    have:=hw i (by simp[ea,ab]);rw[g1,g2];split
    ·rfl
    ·exact this)
  refine ⟨gL,?_,⟨aM.len.trans dd,fun i ab=> ?_⟩,⟨bF.len.trans cM,fun i ab=> ?_⟩,fun i ab=> ?_⟩
  ·simp only[HM.run];exact xW ar
  ·simp only[ea,cI.none,List.mem_append,List.mem_cons,List.not_mem_nil,or_false,not_or]at ab;have:=aM.other i ab.1;rw[g1,if_neg ab.2]at this;simpa [ea,cI.none] using this
  ·simp only[ea,cI.none,List.mem_append,List.mem_cons,List.not_mem_nil,or_false,not_or]at ab;have:=bF.other i ab.1;rw[g2,if_neg ab.2]at this;simpa [ea,cI.none] using this
  ·by_cases fG:i∈bh.wr
   ·exact cT i fG
   ·rw[bF.other i fG,aM.other i fG,g1,g2];split
    ·rfl
    ·rw[hw i ab]
 |nw b k aO=>
  intro h ad n a ca aI q e lt ao az hw;simp only[HM.run]at e;obtain ⟨bh,ai,rfl⟩:=xP e;have zQ:n<h.length:=lt.wr n (by simp[ea]);have dd:=gK h n b zQ;have cM:=gK ad n b (by omega);have g1:=fun i=>fk h n b i (by omega)
  have g2:=fun i=>fk ad n b i (by omega)
  obtain ⟨gL,ar,aM,bF,cT⟩:=aO n _ (bL ad n b) (n+1) a ca aI bh ai (by rw[dd];exact lt.tail) (by omega) (fun i ab=>by
    have:=az i (by simp[ea,ab]);rw[g1,g2];split
    ·rfl
    ·exact this) (fun i ab=>by
    have:=hw i (by simp[ea,ab]);rw[g1,g2];split
    ·rfl
    ·exact this)
  refine ⟨gL,?_,⟨aM.len.trans dd,fun i ab=> ?_⟩,⟨bF.len.trans cM,fun i ab=> ?_⟩,fun i ab=> ?_⟩
  ·simp only[HM.run];exact xW ar
  ·simp only[ea,cI.none,List.mem_append,List.mem_cons,List.not_mem_nil,or_false,not_or]at ab;have:=aM.other i ab.1;rw[g1,if_neg ab.2]at this;simpa [ea,cI.none] using this
  ·simp only[ea,cI.none,List.mem_append,List.mem_cons,List.not_mem_nil,or_false,not_or]at ab;have:=bF.other i ab.1;rw[g2,if_neg ab.2]at this;simpa [ea,cI.none] using this
  ·by_cases fG:i∈bh.wr
   ·exact cT i fG
   ·rw[bF.other i fG,aM.other i fG,g1,g2];split
    ·rfl
    ·rw[hw i ab]
 |nxt k aO=>
  intro h ad n a ca aI q e lt ao az hw;exact aO n h ad n a ca aI q e lt ao az hw
open Go.RowKit
section
variable {P:Program} {cx:bS} {Γ:gg} {ops:Array Oper}
theorem Wy [Env] {o:Oper} {ev ev':Operand->ae} (h: ∀x∈o.op.operands.toList,ev x=ev' x):lG cx Γ o ev=lG cx Γ o ev':=by
 obtain ⟨dst,op,ty,pos,after,guard⟩:=o;have mp: ∀ps:List (Nat×Operand),(∀x∈ps.map (·.2),ev x=ev' x)->(ps.map fun p=>(p.1,ev p.2))=ps.map fun p=>(p.1,ev' p.2):=fun ps aP=>
  List.map_congr_left fun p hm=>by rw[aP p.2 (List.mem_map.2 ⟨p,hm,rfl⟩)]
 have ml: ∀ps:List Operand,(∀x∈ps,ev x=ev' x)->ps.map ev=ps.map ev':=fun ps aP=>List.map_congr_left aP
 have Oq: ∀ps:Option Operand,(∀x∈ps.toArray,ev x=ev' x)->ps.map ev=ps.map ev':=fun ps aP=>by
  cases ps with
  |none=>rfl
  |some x=>simp[aP x (by simp)]
 cases op<;>simp only[Op.operands]at h<;>simp only[lG]
 case move x=>rw[h x (by simp)]
 case assign x=>rw[h x (by simp)]
 case pick c a b=>rw[h c (by simp),h a (by simp),h b (by simp)]
 case box T x=>rw[h x (by simp)]
 case build T ps=>rw[mp ps.toList (fun x aw=>h x (by simpa using aw))]
 case buildSlice T m ps=>rw[mp ps.toList (fun x aw=>h x (by simpa using aw))]
 case load T x=>rw[h x (by simp)]
 case store T x y=>rw[h x (by simp),h y (by simp)]
 case nilCheck x=>rw[h x (by simp)]
 case binOp b T x y z=>rw[h x (by simp),h y (by simp)]
 case unOp b T x=>rw[h x (by simp)]
 case convert S T x=>rw[h x (by simp)]
 case makeInterface T x=>rw[h x (by simp)]
 case makeFunc f l m=>
  cases f
  case func f=>simp only;rw[ml l.toList (fun x aw=>h x (by simp;exact .inl (by simpa using aw))),ml m.toList (fun x aw=>h x (by simp;exact .inr (by simpa using aw)))]
  all_goals rfl
 case makeSlice T x y=>rw[h x (by simp),h y (by simp)]
 case slice T x l m k=>
  rw[h x (by simp),Oq l (fun y bf=>h y (by simp at bf ⊢;simp[bf])),Oq m (fun y bf=>h y (by simp at bf ⊢;simp[bf])),Oq k (fun y bf=>h y (by simp at bf ⊢;simp[bf]))]
 case fieldAddr T x f=>rw[h x (by simp)]
 case field T x f=>rw[h x (by simp)]
 case indexAddr T x y=>rw[h x (by simp),h y (by simp)]
 case index T x y=>rw[h x (by simp),h y (by simp)]
 case extract x j=>rw[h x (by simp)]
 case range T x=>rw[h x (by simp)]
 case next x b=>rw[h x (by simp)]
 case call c=>
  have aa:c.args.toList.map ev=c.args.toList.map ev':=ml _ fun x aw=>h x (by simp[Call.operands];exact .inr (by simpa using aw))
  rw[aa];cases aB:c.callee with
  |builtin b=>rfl
  |value f=>simp only;rw[h f (by simp[Call.operands,aB])]
  |invoke r m=>simp only;rw[h r (by simp[Call.operands,aB])]
def se (ops:Array Oper) (R:bD) (o:Oper):Option Bool:=match o.guard with
 |none=>some true
 |some (j,want)=>match (ops[j]?).bind (·.dst) with
  |some d=>match (R.get d).bind kL with
   |some b=>some (yy b want)
   |none=>match R.get d with
    |some (.tup [])=>some false
    |_=>none
  |none=>none
def oU [Env] (cx:bS) (Γ:gg) (o:Oper) (R:bD) (b:Bool):HM ae:=bif b then lG cx Γ o (gy R) else .ret (.tup [])
theorem Kr [Env] {o:Oper} {R R':bD} (h: ∀d∈pQ ops o,R.get d=R'.get d):se ops R o=se ops R' o/\ ∀b,oU cx Γ o R b=oU cx Γ o R' b:=by
 constructor
 ·unfold se;cases bH:o.guard with
  |none=>rfl
  |some Aj=>
   obtain ⟨j,want⟩:=Aj;simp only;cases ay:(ops[j]?).bind (·.dst) with
   |none=>rfl
   |some d=>
    simp only;rw[h d (by simp[pQ,Oper.looksAt,bH,ay])]
 ·intro b;unfold oU;rw[Wy (ev:=gy R) (ev':=gy R')];intro x aw;cases x with
  |tmp t=>simp only[gy];rw[h t (by simp only[pQ,Oper.looksAt,List.mem_append,List.mem_filterMap];exact .inl ⟨.tmp t,aw,rfl⟩)]
  |const v=>rfl
  |global g=>rfl
  |func f=>rfl
theorem tG (R:bD) (d:Option Tmp) (r:ae) (e:Nat):(ke R d r).get e=if d=some e then some r else R.get e:=by
 cases d with
 |none=>simp[ke]
 |some d=>
  simp only[ke,bD.get_put,bs];by_cases h:e=d
  ·subst h;simp
  ·rw[if_neg h,if_neg (fun ca=>h ca.symm)]
theorem CD [Env] {o:Oper} {st b6:bn} {nx n:Nat} {p:cI}:(sc cx Γ o st nx).val=some (b6,n,p)↔ ∃r,((lG cx Γ o (gy st.regs)).run st.heap nx .none).val=some (r,b6.heap,n,p)/\b6.regs=ke st.regs o.dst r:=by
 unfold sc;constructor
 ·intro e;obtain ⟨⟨r,h,m,q⟩,ai,aq⟩:=DT.val_bind_some e;simp only[DT.val,bs,ct]at aq;obtain ⟨rfl,rfl,rfl⟩:=aq;exact ⟨r,ai,rfl⟩
 ·rintro ⟨r,ai,aq⟩;rw[DT.val_bind,ai];obtain ⟨hU,H1⟩:=b6;simp only at aq;subst aq;rfl
theorem Xj [Env] {o:Oper} {R R':bD} (h: ∀e,R.get e=R'.get e):lG cx Γ o (gy R)=lG cx Γ o (gy R'):=by
 refine Wy fun x _=> ?_
 cases x with
 |tmp t=>simp only[gy];rw[h t]
 |const v=>rfl
 |global g=>rfl
 |func f=>rfl
theorem C8 {R R':bD} (h: ∀e,R.get e=R'.get e) (d:Option Tmp) (r:ae) (e:Nat):(ke R d r).get e=(ke R' d r).get e:=by rw[tG,tG,h]
theorem xH [Env] {o:Oper} {st b6:bn} {nx n:Nat} {p:cI} (e:(om cx Γ ops o st nx).val=some (b6,n,p)):
  ∃b r,se ops st.regs o=some b/\((oU cx Γ o st.regs b).run st.heap nx .none).val=some (r,b6.heap,n,p)/\ ∀e,b6.regs.get e=(ke st.regs o.dst r).get e:=by
 unfold om at e;unfold se;cases bH:o.guard with
 |none=>
  simp only[bH]at e;obtain ⟨r,aa,ad⟩:=CD.1 e;exact ⟨true,r,rfl,aa,fun e=>by rw[ad]⟩
 |some Aj=>
  obtain ⟨j,want⟩:=Aj;simp only[bH]at e ⊢;cases ay:(ops[j]?).bind (·.dst) with
  |none=>simp[ay,DT.val]at e
  |some d=>
   simp only[ay]at e ⊢;cases ag:(st.regs.get d).bind kL with
   |none=>
    simp only[ag]at e ⊢;split at e
    ·rename_i bo;simp only[DT.val,bs,ct]at e;obtain ⟨rfl,rfl,rfl⟩:=e;exact ⟨false,.tup [],by simp only[bo],rfl,fun _=>rfl⟩
    ·simp[DT.val]at e
   |some b=>
    have bo:=BO ag;simp only[ag,DT.val]at e ⊢;cases ab:yy b want
    ·have nd:b= !want:=by cases b<;>cases want<;>first |rfl |cases ab
     simp only[ab,aL,bs,ct]at e;obtain ⟨rfl,rfl,rfl⟩:=e;exact ⟨false,.tup [],rfl,rfl,C8 (rl (by rw[bo,nd])) _ _⟩
    ·have nd:b=want:=by cases b<;>cases want<;>first |rfl |cases ab
     simp only[ab,aA]at e;obtain ⟨r,aa,ad⟩:=CD.1 e;have az:=rl (R:=st.regs) (d:=d) (b:=want) (by rw[bo,nd]);refine ⟨true,r,rfl,?_,fun e=> ?_⟩
     ·simp only[oU,aA];rw[<-Xj az];exact aa
     ·rw[ad];exact C8 az _ _ e
theorem Ka [Env] {o:Oper} {st:bn} {h:List aG} {nx n:Nat} {p:cI} {b:Bool} {r:ae} (aU:se ops st.regs o=some b) (e:((oU cx Γ o st.regs b).run st.heap nx .none).val=some (r,h,n,p)):
  ∃hU,(om cx Γ ops o st nx).val=some (⟨hU,h⟩,n,p)/\ ∀e,hU.get e=(ke st.regs o.dst r).get e:=by
 unfold se at aU;unfold om;cases bH:o.guard with
 |none=>
  simp only[bH,bs]at aU;subst aU;exact ⟨ke st.regs o.dst r,CD.2 ⟨r,e,rfl⟩,fun _=>rfl⟩
 |some Aj=>
  obtain ⟨j,want⟩:=Aj;simp only[bH]at aU ⊢;cases ay:(ops[j]?).bind (·.dst) with
  |none=>simp[ay]at aU
  |some d=>
   simp only[ay]at aU ⊢;cases ag:(st.regs.get d).bind kL with
   |none=>
    simp only[ag]at aU ⊢;split at aU
    ·rename_i bo;simp only[bs]at aU;subst aU;simp only[oU,aL,HM.run,DT.val,bs,ct]at e;obtain ⟨rfl,rfl,rfl,rfl⟩:=e;refine ⟨ke st.regs o.dst (.tup []),?_,fun _=>rfl⟩;simp only[bo,DT.val]
    ·cases aU
   |some bJ=>
    have bo:=BO ag;simp only[ag,bs]at aU;simp only[DT.val];rw[aU];cases b
    ·have nd:bJ= !want:=by cases bJ<;>cases want<;>first |rfl |cases aU
     simp only[oU,aL,HM.run,DT.val,bs,ct]at e ⊢;obtain ⟨rfl,rfl,rfl,rfl⟩:=e;exact ⟨_,⟨rfl,rfl,rfl⟩,C8 (rl (by rw[bo,nd])) _ _⟩
    ·have nd:bJ=want:=by cases bJ<;>cases want<;>first |rfl |cases aU
     have az:=rl (R:=st.regs) (d:=d) (b:=want) (by rw[bo,nd]);simp only[oU,aA]at e ⊢;rw[<-Xj az]at e;exact ⟨ke (refine st.regs d want) o.dst r,CD.2 ⟨r,e,rfl⟩,C8 az _ _⟩
def js (a b:bn):Prop:=(∀d,a.regs.get d=b.regs.get d)/\a.heap=b.heap
theorem js.refl (a:bn):js a a:=⟨fun _=>rfl,rfl⟩
theorem js.symm {a b:bn} (h:js a b):js b a:=⟨fun d=>(h.1 d).symm,h.2.symm⟩
theorem js.trans {a b c:bn} (h:js a b) (k:js b c):js a c:=⟨fun d=>(h.1 d).trans (k.1 d),h.2.trans k.2⟩
structure nF [Env] (cx:bS) (Γ:gg) (ops:Array Oper) (base L:Nat) (N:Nat->cI) (i:Nat) (st b6:bn):Prop where
 ex: ∃o n,ops[i]? =some o/\(om cx Γ ops o st (base+slotsOf*i)).val=some (b6,n,N i)/\n<=base+slotsOf*i+slotsOf
 lt:pY L (N i)
 len:st.heap.length=L
variable {base L:Nat} {N:Nat->cI}
theorem nF.left [Env] {i:Nat} {st b6:bn} (s:nF cx Γ ops base L N i st b6):HJ st.heap (N i) b6.heap:=by
 obtain ⟨o,n,aa,ad,al⟩:=s.ex;obtain ⟨b,r,aE,aZ,bt⟩:=xH ad;obtain ⟨gL,-,l,-⟩:=C0 _ st.heap st.heap _ _ _ _ _ aZ (by rw[s.len];exact s.lt) rfl (fun _ _=>rfl) (fun _ _=>rfl);exact l
theorem nF.congr [Env] {i:Nat} {st b6 aV:bn} (s:nF cx Γ ops base L N i st b6) (e:js st aV): ∃rA,nF cx Γ ops base L N i aV rA/\js b6 rA:=by
 obtain ⟨o,n,aa,ad,al⟩:=s.ex;obtain ⟨b,r,aE,aZ,bt⟩:=xH ad;obtain ⟨a7,aY⟩:=Kr (cx:=cx) (Γ:=Γ) (ops:=ops) (o:=o) (R:=st.regs) (R':=aV.regs) (fun d _=>e.1 d);obtain ⟨hU,g1,g2⟩:=Ka (cx:=cx) (Γ:=Γ) (ops:=ops) (o:=o) (st:=aV) (nx:=base+slotsOf*i) (b:=b) (by rw[<-a7];exact aE) (by rw[<-aY,<-e.2];exact aZ);refine ⟨⟨hU,b6.heap⟩,⟨⟨o,n,aa,g1,al⟩,s.lt,by rw[<-e.2];exact s.len⟩,⟨fun d=> ?_,rfl⟩⟩;rw[bt,g2,tG,tG,e.1 d]
structure DV (ops:Array Oper) (N:Nat->cI) (a b:Nat):Prop where
 regs: ∀q8 ob,ops[a]? =some q8->ops[b]? =some ob->(∀d,q8.dst=some d->d∉pQ ops ob/\ob.dst≠some d)/\ ∀d,ob.dst=some d->d∉pQ ops q8
 ww: ∀o∈(N a).wr,o∉(N b).wr
 wr: ∀o∈(N a).wr,o∉(N b).rd
 wf: ∀o∈(N a).wr,o∉(N b).fz
 rw_: ∀o∈(N b).wr,o∉(N a).rd
 fw: ∀o∈(N b).wr,o∉(N a).fz
theorem swap [Env] {a b:Nat} {st b6 dC:bn} (ry:nF cx Γ ops base L N a st b6) (AZ:nF cx Γ ops base L N b b6 dC) (ap:DV ops N a b):
  ∃rA OQ,nF cx Γ ops base L N b st rA/\nF cx Γ ops base L N a rA OQ/\js dC OQ:=by
 have h1:=ry.left;obtain ⟨q8,asa,en,a2,a3⟩:=ry.ex;obtain ⟨apn,ady,a4,a5,oJ⟩:=xH a2;obtain ⟨ob,asb,b1,b2,b3⟩:=AZ.ex;obtain ⟨et,adz,gI,gU,jy⟩:=xH b2;obtain ⟨ar,aM⟩:=ap.regs q8 ob en b1;have hx:=Kr (cx:=cx) (Γ:=Γ) (ops:=ops) (o:=ob) (R:=b6.regs) (R':=st.regs) (fun d ax=>by
  rw[oJ,tG,if_neg];intro h;exact (ar d h).1 ax)
 obtain ⟨dc,gD,hB,pI,FO⟩:=C0 _ b6.heap st.heap _ _ _ _ _ gU (by rw[AZ.len];exact AZ.lt) (by rw[ry.len,AZ.len]) (fun o an=>by
  rw[h1.other o (fun h=>ap.wr o h an),Xe]) (fun o an=>by
  rw[h1.other o (fun h=>ap.ww o h an)];unfold k8;rw[if_neg (ap.fw o an)])
 obtain ⟨gL,bh,bZ,da,c4⟩:=C0 _ st.heap dc _ _ _ _ _ a5 (by rw[ry.len];exact ry.lt) pI.len (fun o an=>by
  rw[pI.other o (fun h=>ap.rw_ o h an),Xe]) (fun o an=>by
  rw[pI.other o (fun h=>ap.ww o an h)];unfold k8;rw[if_neg (ap.wf o an)])
 obtain ⟨hU,g1,g2⟩:=Ka (cx:=cx) (Γ:=Γ) (ops:=ops) (o:=ob) (st:=st) (nx:=base+slotsOf*b) (b:=et) (by rw[<-hx.1];exact gI) (by rw[<-hx.2];exact gD);have Eh:=Kr (cx:=cx) (Γ:=Γ) (ops:=ops) (o:=q8) (R:=st.regs) (R':=hU) (fun d ax=>by
  rw[g2,tG,if_neg];intro h;exact aM d h ax)
 obtain ⟨uj,g3,g4⟩:=Ka (cx:=cx) (Γ:=Γ) (ops:=ops) (o:=q8) (st:=⟨hU,dc⟩) (nx:=base+slotsOf*a) (b:=apn) (by rw[<-Eh.1];exact a4) (by rw[<-Eh.2];exact bh);refine ⟨⟨hU,dc⟩,⟨uj,gL⟩,⟨⟨ob,asb,b1,g1,b3⟩,AZ.lt,ry.len⟩,⟨⟨q8,asa,en,g3,a3⟩,ry.lt,by rw[<-ry.len];exact pI.len⟩,⟨fun d=> ?_,?_⟩⟩
 ·rw[jy,g4];simp only[tG,oJ,g2];by_cases aa:ob.dst=some d
  ·rw[if_pos aa,if_neg (fun h=>(ar d h).2 aa),if_pos aa]
  ·rw[if_neg aa,if_neg aa]
 ·have hlen:dC.heap.length=gL.length:=by
   rw[da.len,pI.len,<-h1.len,<-hB.len]
  refine List.ext_getElem? fun o=> ?_
  have key:aF dC.heap o=aF gL o:=by
   by_cases vT:o∈(N a).wr
   ·rw[c4 o vT,hB.other o (ap.ww o vT)];unfold k8;rw[if_neg (ap.wf o vT)]
   ·by_cases Fk:o∈(N b).wr
    ·rw[da.other o vT];unfold k8;rw[if_neg (ap.fw o Fk),FO o Fk]
    ·rw[da.other o vT,pI.other o Fk,hB.other o Fk,h1.other o vT];unfold k8;split<;>split<;>rfl
  rcases Nat.lt_or_ge o dC.heap.length with h |h
  ·have ca:o<gL.length:=by omega
   simp only[aF,List.getD_eq_getElem?_getD,List.getElem?_eq_getElem h,List.getElem?_eq_getElem ca,Option.getD_some]at key;rw[List.getElem?_eq_getElem h,List.getElem?_eq_getElem ca,key]
  ·rw[List.getElem?_eq_none h,List.getElem?_eq_none (show gL.length<=o by omega)]
def mh [Env] (cx:bS) (Γ:gg) (ops:Array Oper) (base L:Nat) (N:Nat->cI):List Nat->bn->bn->Prop
 |[],st,aV=>js st aV
 |i::l,st,aV=> ∃b6,nF cx Γ ops base L N i st b6/\mh cx Γ ops base L N l b6 aV
theorem mh.congr [Env]: ∀{l:List Nat} {st aV dC:bn},mh cx Γ ops base L N l st aV->js st dC->mh cx Γ ops base L N l dC aV
 |[],st,aV,dC,h,e=>e.symm.trans h
 |i::l,st,aV,dC,⟨b6,aa,ad⟩,e=>by
  obtain ⟨rA,al,aE⟩:=aa.congr e;exact ⟨rA,al,ad.congr aE⟩
theorem mh.front [Env]: ∀{dd cM:List Nat} {i:Nat} {st aV:bn},mh cx Γ ops base L N (dd++i::cM) st aV->(∀j∈dd,DV ops N j i)->mh cx Γ ops base L N (i::(dd++cM)) st aV
 |[],cM,i,st,aV,h,_=>h
 |j::dd,cM,i,st,aV,⟨b6,aa,ad⟩,aR=>by
  obtain ⟨dC,al,aE⟩:=mh.front ad fun k av=>aR k (by simp[av])
  obtain ⟨att,atu,aZ,bt,dn⟩:=swap aa al (aR j (by simp));exact ⟨att,aZ,atu,bt,aE.congr dn⟩
end
open Go.RowKit
theorem rF {l m:List Nat} (h:m2 l m=true): ∀a∈l,a∉m:=by
 induction l with
 |nil=>simp
 |cons b l aO=>
  simp only[m2,bB,Bool.not_eq_true']at h;intro a aR hm;rcases List.mem_cons.1 aR with rfl |aR
  ·rw[yf.2 hm]at h;cases h.1
  ·exact aO h.2 a aR hm
theorem VY {qp:List Nat} {i:Nat} {n:lB}: ∀(l:List lB) (j:Nat),r5.go qp i n j l=true-> ∀k m,l[k]? =some m->(qp.getD (j+k) 0).testBit i=true\/n.apart m=true
 |[],j,h,k,m,hm=>by simp at hm
 |x::l,j,h,k,m,hm=>by
  simp only[r5.go,bB,Bool.or_eq_true]at h;cases k with
  |zero=>
   obtain rfl:x=m:=by simpa using hm
   exact h.1
  |succ k=>
   have:=VY l (j+1) h.2 k m (by simpa using hm)
   rwa [show j+1+k=j+(k+1) by omega]at this
theorem Xy {qp:List Nat}: ∀(l:List lB) (i:Nat),r5 qp i l=true-> ∀a b n m,a<b->l[a]? =some n->l[b]? =some m->(qp.getD (i+b) 0).testBit (i+a)=true\/n.apart m=true
 |[],i,h,a,b,n,m,_,aQ,_=>by simp at aQ
 |x::l,i,h,a,b,n,m,fc,aQ,hm=>by
  simp only[r5,bB]at h;cases b with
  |zero=>omega
  |succ b=>
   cases a with
   |zero=>
    obtain rfl:x=n:=by simpa using aQ
    have:=VY l (i+1) h.1 b m (by simpa using hm)
    rwa [show i+1+b=i+(b+1) by omega]at this
   |succ a=>
    have:=Xy l (i+1) h.2 a b n m (by omega) (by simpa using aQ) (by simpa using hm)
    rwa [show i+1+b=i+(b+1) by omega,show i+1+a=i+(a+1) by omega]at this
theorem W8: ∀(l:List Oper) (i:Nat),uF i l=true-> ∀k o,l[k]? =some o-> ∀e∈o.after.toList,Region.binds .any e=true->e.on<i+k
 |[],i,h,k,o,an,e,he,ag=>by simp at an
 |x::l,i,h,k,o,an,e,he,ag=>by
  simp only[uF,bB,List.all_eq_true]at h;cases k with
  |zero=>
   obtain rfl:x=o:=by simpa using an
   have:=h.1 e he;simpa [ag] using this
  |succ k=>
   have:=W8 l (i+1) h.2 k o (by simpa using an) e he ag;omega
theorem YH (f:Edge->Bool) (g:Edge->Nat) (j:Nat): ∀(l:List Edge) (m:Nat),(l.foldl (fun m e=>if f e then m ||| g e else m) m).testBit j=true->m.testBit j=true\/ ∃e∈l,f e=true/\(g e).testBit j=true
 |[],m,h=>.inl h
 |e::l,m,h=>by
  simp only[List.foldl_cons]at h;rcases YH f g j l _ h with aa |⟨dx,aa,ad⟩
  ·cases aJ:f e
   ·simp only[aJ,Bool.false_eq_true,if_false]at aa;exact .inl aa
   ·simp only[aJ,if_true,Nat.testBit_or,Bool.or_eq_true]at aa;rcases aa with aa |aa
    ·exact .inl aa
    ·exact .inr ⟨e,by simp,aJ,aa⟩
  ·exact .inr ⟨dx,by simp[aa],ad⟩
theorem Xn: ∀(l:List Oper) (acc:List Nat),(∀k,k<acc.length->(iR.go l acc)[k]? =acc[k]?)/\
  ∀k o,l[k]? =some o-> ∀j,((iR.go l acc).getD (acc.length+k) 0).testBit j=true-> ∃e∈o.after.toList,Region.binds .any e=true/\(j=e.on\/(e.on<acc.length+k/\((iR.go l acc).getD e.on 0).testBit j=true))
 |[],acc=>⟨fun k av=>by simp only[iR.go],fun k o an=>by simp at an⟩
 |o::l,acc=>by
  let x:=o.after.toList.foldl (fun m e=>bif Region.binds .any e then m ||| (1 <<< e.on) ||| acc.getD e.on 0 else m) 0
  obtain ⟨aby,arS⟩:=Xn l (acc++[x]);have aqC:iR.go (o::l) acc=iR.go l (acc++[x]):=by simp only[iR.go,x]
  rw[aqC];have keep: ∀k,k<acc.length->(iR.go l (acc++[x]))[k]? =acc[k]? :=fun k av=>by
   rw[aby k (by simp;omega),List.getElem?_append_left av]
  refine ⟨keep,fun k de an j ay=> ?_⟩;cases k with
  |zero=>
   obtain rfl:o=de:=by simpa using an
   have aw:(iR.go l (acc++[x])).getD (acc.length+0) 0=x:=by
    rw[List.getD_eq_getElem?_getD,aby (acc.length+0) (by simp)];simp
   rw[aw]at ay;have jG:(o.after.toList.foldl (fun m e=>if Region.binds .any e then m ||| ((1 <<< e.on) ||| acc.getD e.on 0) else m) 0).testBit j=true:=by
    have:(fun (m:Nat) (e:Edge)=>bif Region.binds .any e then m ||| (1 <<< e.on) ||| acc.getD e.on 0 else m)=fun m e=>if Region.binds .any e then m ||| ((1 <<< e.on) ||| acc.getD e.on 0) else m:=by
     funext m e
     cases Region.binds .any e
     ·rfl
     ·simp[Nat.or_assoc]
    rw[<-this];exact ay
   rcases YH (Region.binds .any) (fun e=>(1 <<< e.on) ||| acc.getD e.on 0) j o.after.toList 0 jG with h |⟨e,he,ag,aax⟩
   ·simp at h
   ·refine ⟨e,he,ag,?_⟩;simp only[Nat.testBit_or,Bool.or_eq_true]at aax;rcases aax with h |h
    ·left;simpa [Nat.one_shiftLeft,Nat.testBit_two_pow] using Eq.symm (by simpa [Nat.one_shiftLeft,Nat.testBit_two_pow] using h:e.on=j)
    ·right;have a8:e.on<acc.length:=by
      rcases Nat.lt_or_ge e.on acc.length with aa |aa
      ·exact aa
      ·simp[List.getD_eq_getElem?_getD,List.getElem?_eq_none aa]at h
     refine ⟨by omega,?_⟩;rw[List.getD_eq_getElem?_getD,keep e.on a8,<-List.getD_eq_getElem?_getD];exact h
  |succ k=>
   have av:(acc++[x]).length+k=acc.length+(k+1):=by simp;omega
   have:=arS k de (by simpa using an) j (by rw[av];exact ay)
   rwa [av]at this
theorem ak0 {l:List Oper} {k:Nat} {o:Oper} (an:l[k]? =some o) {j:Nat} (h:((iR l).getD k 0).testBit j=true): ∃e∈o.after.toList,Region.binds .any e=true/\(j=e.on\/(e.on<k/\((iR l).getD e.on 0).testBit j=true)):=by
 have:=(Xn l []).2 k o an j (by simpa [iR] using h);simpa [iR] using this
section
variable {P:Program} {cx:bS} {Γ:gg} {ops:Array Oper} {base L:Nat}
def oO (ns:List lB) (i:Nat):cI:=((ns[i]?).map (·.fp)).getD .none
theorem V9 [Env]: ∀(l:List Oper) (i:Nat) (st aV:bn) (ns oe:List lB),(ye cx Γ ops base L i l st ns).val=some (aV,oe)->ns.length=i->(∀k,l[k]? =ops[i+k]?)->st.heap.length=L->
  oe.length=i+l.length/\(∀k,k<i->oe[k]? =ns[k]?)/\(∀k o n,l[k]? =some o->oe[i+k]? =some n->n.dst=o.dst.toList/\n.uses=pQ ops o)/\
   mh cx Γ ops base L (oO oe) (List.range' i l.length) st aV
 |[],i,st,aV,ns,oe,e,aQ,ao,lK=>by
  simp only[ye,DT.val,bs,ct]at e;obtain ⟨rfl,rfl⟩:=e;exact ⟨by simp[aQ],fun _ _=>rfl,fun k o n h=>by simp at h,js.refl _⟩
 |o::l,i,st,aV,ns,oe,e,aQ,ao,lK=>by
  simp only[ye]at e;obtain ⟨⟨b6,n,fp⟩,ai,aq⟩:=DT.val_bind_some e;simp only at aq;cases ag:Nat.ble n (base+slotsOf*i+slotsOf)&&D7 L fp
  ·simp[ag,DT.val]at aq
  ·simp only[ag,aA]at aq;simp only[bB]at ag;have a8:=pY.of ag.2;have an:ops[i]? =some o:=by simpa using (ao 0).symm
   have hlen:b6.heap.length=L:=by
    obtain ⟨b,r,aE,aZ,bt⟩:=xH ai;obtain ⟨gL,-,arZ,-⟩:=C0 _ st.heap st.heap _ _ _ _ _ aZ (by rw[lK];exact a8) rfl (fun _ _=>rfl) (fun _ _=>rfl);rw[arZ.len,lK]
   obtain ⟨bh,bZ,da,c4⟩:=V9 l (i+1) b6 aV _ oe aq (by simp[aQ]) (fun k=>by
    have:=ao (k+1);simpa [Nat.add_assoc,Nat.add_comm 1 k] using this) hlen
   have ab:oe[i]? =some ⟨o.dst.toList,pQ ops o,fp⟩:=by
    rw[bZ i (by omega),List.getElem?_append_right (by omega)];simp[aQ]
   have aaH:oO oe i=fp:=by simp[oO,ab]
   refine ⟨by rw[bh];simp;omega,fun k av=>by rw[bZ k (by omega),List.getElem?_append_left (by omega)],fun k de aI av vI=> ?_,⟨b6,⟨⟨o,n,an,by rw[aaH];exact ai,by simpa using ag.1⟩,by rw[aaH];exact a8,lK⟩,c4⟩⟩;cases k with
   |zero=>
    obtain rfl:o=de:=by simpa using av
    rw[Nat.add_zero,ab]at vI;obtain rfl:=Option.some.inj vI;exact ⟨rfl,rfl⟩
   |succ k=>
    exact da k de aI (by simpa using av) (by rw[show i+1+k=i+(k+1) by omega];exact vI)
variable {nt:hR} {N:Nat->cI}
theorem cL.congr [Env] {φ:bw} {ι:Nat->Value} {w:World} {st aV:bn} {a:Act} (s:cL φ ι w nt st a) (e:js st aV):cL φ ι w nt aV a:=
 ⟨by rw[<-e.2];exact s.heap,fun d r h=>by rw[<-e.2];exact s.regs d r (by rw[e.1 d];exact h),s.nt,s.small,by rw[<-e.2];exact s.defers⟩
theorem amA [Env] (tab:cA P cx) (cE:bO P Γ) {Q:Exit->Act->World->Prop} {rB:bn} (M5:ops.toList.all (nM nt.n)=true) (aqt:uF 0 ops.toList=true)
  (qM: ∀a b,a<b->b<ops.size->((iR ops.toList).getD b 0).testBit a=true\/DV ops N a b) (lK:base+slotsOf*ops.size<=L)
  {Qd:bw} {xf:Nat->Value} {gu:World} {tY:List aG}
  (k: ∀bc w' φ' ι',cL φ' ι' w' nt rB bc->Step Qd xf gu tY φ' ι' w' rB.heap->dA xf tY ι' rB.heap->Q .normal bc w'):
  ∀(fuel:Nat) (listed:Array Bool) (rest:List Nat) (st:bn) (φ:bw) (ι:Nat->Value) (w:World) (a:Act),rest.length<=fuel->rest.Pairwise (· < ·)->listed.size=ops.size->(∀i,i∈rest↔(i<ops.size/\listed.getD i true=false))->
   (∀i,i<ops.size->i∉rest-> ∀j,((iR ops.toList).getD i 0).testBit j=true->j∉rest)->(∀i∈rest,∀k,base+slotsOf*i<=k->k<base+slotsOf*i+slotsOf->(aF st.heap k).live=false)->st.heap.length=L->
   mh cx Γ ops base L N rest st rB->cL φ ι w nt st a->Step Qd xf gu tY φ ι w st.heap->dA xf tY ι st.heap->wpAnyIn (ec nt.ro) 0 P .any ops Q fuel listed a w:=by
 intro fuel;have norm: ∀{listed:Array Bool} {rest:List Nat} {st:bn} {φ:bw} {ι:Nat->Value} {w:World} {a:Act},rest.Pairwise (· < ·)->(∀i,i∈rest↔(i<ops.size/\listed.getD i true=false))->listed.size=ops.size->mh cx Γ ops base L N rest st rB->cL φ ι w nt st a->Step Qd xf gu tY φ ι w st.heap->dA xf tY ι st.heap->
   Region.ready .any ops listed=[]->Q .normal a w:=by
  intro listed rest st φ ι w a au dq dh wR bV sp bE az;cases rest with
  |nil=>
   have e:js st rB:=wR;refine k a w φ ι (bV.congr e) ?_ ?_
   ·rw[<-e.2];exact sp
   ·rw[<-e.2];exact bE
  |cons i rest=>
   exfalso;have ab:=(dq i).1 (by simp);have:i∈Region.ready .any ops listed:=by
    unfold Region.ready;rw[List.mem_filter];refine ⟨by simp[ab.1],?_⟩;rw[ab.2];have E9:ops[i]? =some ops[i]:=Array.getElem?_eq_getElem ab.1;simp only[E9,Option.map_some,Option.getD_some,dr,Bool.true_and];rw[Array.all_eq_true'];intro e he;cases ag:Region.binds .any e
    ·rfl
    ·simp only[dt,Bool.false_or];have a8:=W8 ops.toList 0 aqt i ops[i] (by simp) e (by simpa using he) ag;have pg:e.on∉i::rest:=by
      intro hm;rcases List.mem_cons.1 hm with h |h
      ·omega
      ·have:=(List.pairwise_cons.1 au).1 e.on h;omega
     have n0:e.on<ops.size:=by omega
     have ad: ¬(listed.getD e.on true=false):=fun h=>pg ((dq e.on).2 ⟨n0,h⟩)
     have al:e.on<listed.size:=by omega
     simp only[Array.getD_eq_getD_getElem?,Array.getElem?_eq_getElem al,Option.getD_some]at ad ⊢;simpa using ad
   rw[az]at this;cases this
 induction fuel with
 |zero=>
  intro listed rest st φ ι w a hle au dh dq ir gB hlen wR bV sp bE;have:rest=[]:=by
   cases rest with
   |nil=>rfl
   |cons a l=>simp at hle
  subst this;have az:Region.ready .any ops listed=[]:=by
   unfold Region.ready;rw[List.filter_eq_nil_iff];intro i ab aB;simp only[bB,Bool.not_eq_true']at aB;have:=(dq i).2 ⟨by simpa using ab,aB.1⟩;cases this
  exact ⟨az,norm au dq dh wR bV sp bE az⟩
 |succ fuel aO=>
  intro listed rest st φ ι w a hle au dh dq ir gB hlen wR bV sp bE;refine ⟨norm au dq dh wR bV sp bE,fun i ab=> ?_⟩;unfold Region.ready at ab;rw[List.mem_filter]at ab;obtain ⟨hI,eY⟩:=ab;have hI:i<ops.size:=by simpa using hI
  simp only[bB,Bool.not_eq_true']at eY;have aqM:=(dq i).2 ⟨hI,eY.1⟩;have E9:ops[i]? =some ops[i]:=Array.getElem?_eq_getElem hI;have aaD: ∀e∈ops[i].after.toList,Region.binds .any e=true->e.on∉rest:=by
   intro e he ag hm;have ad:=eY.2;simp only[E9,Option.map_some,Option.getD_some]at ad;rw[Array.all_eq_true']at ad;have al:=ad e (by simpa using he);simp only[ag,dt,Bool.false_or]at al;have aE:=((dq e.on).1 hm);have aZ:e.on<listed.size:=by omega
   have bt:=aE.2;simp only[Array.getD_eq_getD_getElem?,Array.getElem?_eq_getElem aZ,Option.getD_some]at al bt;rw[al]at bt;cases bt
  have aaw: ∀j,((iR ops.toList).getD i 0).testBit j=true->j∉rest:=by
   intro j ay;obtain ⟨e,he,ag,h⟩:=ak0 (o:=ops[i]) (by simp) ay;rcases h with rfl |⟨aa,ad⟩
   ·exact aaD e he ag
   ·exact ir e.on (by omega) (aaD e he ag) j ad
  obtain ⟨dd,cM,rfl⟩:=List.append_of_mem aqM;rw[List.pairwise_append]at au;obtain ⟨s1,s2,gE⟩:=au;rw[List.pairwise_cons]at s2;have at2:=mh.front wR fun j ay=>(qM j i (gE j ay i (by simp)) hI).resolve_left fun h=>aaw j h (List.mem_append.2 (.inl ay))
  obtain ⟨b6,fF,at3⟩:=at2;obtain ⟨o,aI,an,he,vI⟩:=fF.ex;have aq9:o=ops[i]:=by rw[E9]at an;exact (Option.some.inj an).symm
  have hmul:slotsOf*i+slotsOf<=slotsOf*ops.size:=by
   have:=Nat.mul_le_mul_left slotsOf hI
   rwa [Nat.mul_succ]at this
  have aqr:nM nt.n o=true:=by
   rw[aq9];exact List.all_eq_true.1 M5 _ (by simp)
  have ds:hD st.heap (base+slotsOf*i) aI:=⟨by omega,fun k aa ad=>gB i (by simp) k aa (by omega)⟩;have qS:=Jt tab cE he bV ds aqr (K:=wpAnyIn (ec nt.ro) 0 P .any ops Q fuel (listed.setIfInBounds i true)) (Q:=Q) fun bc w' φ' ι' cp atN arU asd=>by
   have cf: ∀j,j∈dd++cM->j≠i:=by
    rintro j ay rfl;rcases List.mem_append.1 ay with h |h
    ·have:=gE j h j (by simp);omega
    ·have:=s2.1 j h;omega
   have n1: ∀j,j∈dd++cM↔(j∈dd++i::cM/\j≠i):=by
    intro j;constructor
    ·intro h;refine ⟨?_,cf j h⟩;rcases List.mem_append.1 h with h |h
     ·exact List.mem_append.2 (.inl h)
     ·exact List.mem_append.2 (.inr (by simp[h]))
    ·rintro ⟨h,nn⟩;rcases List.mem_append.1 h with h |h
     ·exact List.mem_append.2 (.inl h)
     ·exact List.mem_append.2 (.inr (by simpa [nn] using h))
   refine aO (listed.setIfInBounds i true) (dd++cM) b6 φ' ι' w' bc (by simp at hle ⊢;omega) ?_ (by simp[dh]) (fun j=> ?_) (fun j ay aq5 b ag=> ?_) (fun j ay cB aa ad=> ?_) (by rw[fF.left.len,hlen]) at3 cp (sp.trans atN) (bE.trans arU)
   ·rw[List.pairwise_append];exact ⟨s1,s2.2,fun x aw y bf=>gE x aw y (by simp[bf])⟩
   ·rw[n1,dq];simp only[Array.getD_eq_getD_getElem?,Array.getElem?_setIfInBounds];by_cases nn:i=j
    ·subst nn;have:i<listed.size:=by omega
     simp[this]
    ·simp only[if_neg nn];constructor
     ·rintro ⟨h,-⟩;exact h
     ·intro h;exact ⟨h,fun ca=>nn ca.symm⟩
   ·intro hm;have zL:=((n1 b).1 hm).1;by_cases nn:j=i
    ·subst nn;exact aaw b ag zL
    ·exact ir j ay (fun h=>aq5 ((n1 j).2 ⟨h,nn⟩)) b ag zL
   ·have jG:=(n1 j).1 ay;have nn:=jG.2;have:cB<base+slotsOf*i\/aI<=cB:=by
     rcases Nat.lt_or_ge j i with h |h
     ·left;have:=Nat.mul_le_mul_left slotsOf h;rw[Nat.mul_succ]at this;omega
     ·right;have nk:i<j:=by omega
      have:=Nat.mul_le_mul_left slotsOf nk;rw[Nat.mul_succ]at this;omega
    rw[asd.same cB this];exact gB j jG.1 cB aa ad
  unfold wpOpIn;rw[an];simp only;split
  ·rename_i h;rw[if_pos h]at qS;exact qS
  ·rename_i h;rw[if_neg h]at qS;exact ⟨fun _ _=>trivial,qS⟩
end
open Go.RowKit
theorem rE (t:aD) (x:t.den):t.cast? t x=some x:=by simp[aD.cast?]
theorem Wz: ∀(lv:List aD) (l:List dN) (c:(chain lv).den),uE lv l=some c->(chain lv).parts c=l
 |[],[],c,h=>rfl
 |[],_::_,c,h=>by simp[uE]at h
 |_::_,[],c,h=>by simp[uE]at h
 |t::lv,d::l,c,h=>by
  simp only[uE]at h;split at h
  ·rename_i x y aw bf;obtain rfl:=Option.some.inj h;obtain ⟨e,abk⟩:=pJ aw;obtain ⟨u,z⟩:=d;simp only at e;subst e;simp only at abk;have:=Wz lv l y bf;simp only[chain,aD.parts,this,abk]
  ·cases h
mutual
theorem b4.dec_enc: ∀(s:b4) (r:ae) (l rest:List dN),s.dec r=some l->s.enc (l++rest)=some (r,rest)
 | .dat t,r,l,rest,h=>by
  cases r<;>simp only[b4.dec,reduceCtorEq]at h;rename_i u x;cases ag:decide (u=t)
  ·simp[ag]at h
  ·simp only[ag,aA,bs]at h;have e:u=t:=by simpa using ag
   subst e h;simp[b4.enc,kP,rE]
 | .clip t,r,l,rest,h=>by
  cases r<;>simp only[b4.dec,reduceCtorEq]at h;rename_i u x;cases ag:decide (u=t)
  ·simp[ag]at h
  ·simp only[ag,aA,bs]at h;have e:u=t:=by simpa using ag
   subst e h;simp[b4.enc,kP,rE]
 | .own t o,r,l,rest,h=>by
  cases r<;>simp only[b4.dec,reduceCtorEq]at h;rename_i u de;cases ag:decide (u=t)&&Nat.beq o de
  ·simp[ag]at h
  ·simp only[ag,aA,bs]at h;simp only[bB,db,Nat.beq_eq]at ag;obtain ⟨ai,aq⟩:=ag;subst ai aq h;simp[b4.enc]
 | .ptr o t i p,r,l,rest,h=>by
  cases r<;>simp only[b4.dec,reduceCtorEq]at h;rename_i de hb pr p';cases ag:Nat.beq o de&&decide (t=hb)&&Nat.beq i pr&&decide (p=p')
  ·simp[ag]at h
  ·simp only[ag,aA,bs]at h;simp only[bB,db,Nat.beq_eq]at ag;obtain ⟨⟨⟨ai,aq⟩,bb⟩,bx⟩:=ag;subst ai aq bb bx h;simp[b4.enc]
 | .agg s,r,l,rest,h=>by
  cases r<;>simp only[b4.dec,reduceCtorEq]at h;rename_i m;simp[b4.enc,b4.decL_enc s m l rest h]
 | .fn f a b,r,l,rest,h=>by
  cases r<;>simp only[b4.dec,reduceCtorEq]at h;rename_i g x y;cases ag:Nat.beq f g
  ·simp[ag]at h
  ·simp only[ag,aA]at h;have e:f=g:=by simpa using ag
   subst e;split at h
   ·rename_i dd aa;obtain ⟨m,hm,rfl⟩:=Option.map_eq_some_iff.1 h;have a1:=b4.decL_enc a x dd (m++rest) aa;have k2:=b4.decL_enc b y m rest hm;simp only[b4.enc,List.append_assoc,a1,k2,Option.map_some]
   ·cases h
 | .iface T s,r,l,rest,h=>by
  cases r<;>simp only[b4.dec,reduceCtorEq]at h;rename_i U x;cases ag:Nat.beq T U
  ·simp[ag]at h
  ·simp only[ag,aA]at h;have e:T=U:=by simpa using ag
   subst e;simp[b4.enc,b4.dec_enc s x l rest h]
 | .nils e t,r,l,rest,h=>by
  cases r<;>simp only[b4.dec,reduceCtorEq]at h;rename_i dx hb;cases ag:Nat.beq e dx&&decide (t=hb)
  ·simp[ag]at h
  ·simp only[ag,aA,bs]at h;simp only[bB,db,Nat.beq_eq]at ag;obtain ⟨ai,aq⟩:=ag;subst ai aq h;simp[b4.enc]
 | .nilI,r,l,rest,h=>by
  cases r<;>simp only[b4.dec,reduceCtorEq]at h;obtain rfl:=Option.some.inj h;rfl
 | .dfr f a b t,r,l,rest,h=>by
  cases r<;>simp only[b4.dec,reduceCtorEq]at h;rename_i g x y u xs;cases ag:Nat.beq f g&&decide (u=t)
  ·simp[ag]at h
  ·simp only[ag,aA]at h;simp only[bB,db,Nat.beq_eq]at ag;obtain ⟨ai,aq⟩:=ag;subst ai aq;split at h
   ·rename_i dd aa;split at h
    ·rename_i cM ad;obtain rfl:=Option.some.inj h;have bh:=b4.decL_enc a x dd (cM++(⟨.list u,xs⟩::rest)) aa;have bZ:=b4.decL_enc b y cM (⟨.list u,xs⟩::rest) ad;have b8:dd++(cM++[⟨.list u,xs⟩])++rest=dd++(cM++(⟨.list u,xs⟩::rest)):=by simp
     rw[b8];simp[b4.enc,bh,bZ,kP,aD.cast?]
    ·cases h
   ·cases h
 | .yld Y o,r,l,rest,h=>by
  cases r<;>simp only[b4.dec,reduceCtorEq]at h;rename_i p7 de;cases ag:Nat.beq Y p7&&Nat.beq o de
  ·simp[ag]at h
  ·simp only[ag,aA,bs]at h;simp only[bB,Nat.beq_eq]at ag;obtain ⟨ai,aq⟩:=ag;subst ai aq h;simp[b4.enc]
 | .nilF,r,l,rest,h=>by
  cases r<;>simp only[b4.dec,reduceCtorEq]at h;obtain rfl:=Option.some.inj h;rfl
 | .nilP,r,l,rest,h=>by
  cases r<;>simp only[b4.dec,reduceCtorEq]at h;obtain rfl:=Option.some.inj h;rfl
 | .undef,r,l,rest,h=>by
  cases r<;>simp only[b4.dec,reduceCtorEq]at h;obtain rfl:=Option.some.inj h;rfl
theorem b4.decL_enc: ∀(s:List b4) (r:List ae) (l rest:List dN),b4.decL s r=some l->b4.encL s (l++rest)=some (r,rest)
 |[],[],l,rest,h=>by
  simp only[b4.decL,bs]at h;subst h;rfl
 |[],_::_,l,rest,h=>by simp[b4.decL]at h
 |_::_,[],l,rest,h=>by simp[b4.decL]at h
 |s::kO,r::rs,l,rest,h=>by
  simp only[b4.decL]at h;split at h
  ·rename_i a aR;obtain ⟨b,ag,rfl⟩:=Option.map_eq_some_iff.1 h;have a1:=b4.dec_enc s r a (b++rest) aR;have k2:=b4.decL_enc kO rs b rest ag;simp only[b4.encL,List.append_assoc,a1,k2,Option.map_some]
  ·cases h
end
theorem pG: ∀(s:List (Nat×b4)) (R:bD) (l rest:List dN),hA s R=some l->ov s (l++rest)=some (R,rest)
 |[],[],l,rest,h=>by
  simp only[hA,bs]at h;subst h;rfl
 |[],_::_,l,rest,h=>by simp[hA]at h
 |_::_,[],l,rest,h=>by simp[hA]at h
 |(d,s)::kO,(e,r)::rs,l,rest,h=>by
  simp only[hA]at h;cases ag:Nat.beq d e
  ·simp[ag]at h
  ·simp only[ag,aA]at h;have e:d=e:=by simpa using ag
   subst e;split at h
   ·rename_i a aR;obtain ⟨b,ag,rfl⟩:=Option.map_eq_some_iff.1 h;have a1:=b4.dec_enc s r a (b++rest) aR;have k2:=pG kO rs b rest ag;simp only[ov,List.append_assoc,a1,k2,Option.map_some]
   ·cases h
theorem dm.dec_enc (s:dm) (b:aG) (l rest:List dN) (h:s.dec b=some l):s.enc (l++rest)=some (b,rest):=by
 cases s with
 |arr e t fz=>
  cases b<;>simp only[dm.dec,reduceCtorEq]at h;rename_i dx u xs ja;cases ag:Nat.beq e dx&&decide (u=t)&&decide (fz=ja)
  ·simp[ag]at h
  ·simp only[ag,aA,bs]at h;simp only[bB,db,Nat.beq_eq]at ag;obtain ⟨⟨ai,aq⟩,bb⟩:=ag;subst ai aq bb h;simp[dm.enc,kP,rE]
 |box T t r=>
  cases b<;>simp only[dm.dec,reduceCtorEq]at h;rename_i Ce hb s;cases ag:Nat.beq T Ce&&decide (t=hb)
  ·simp[ag]at h
  ·simp only[ag,aA]at h;simp only[bB,db,Nat.beq_eq]at ag;obtain ⟨ai,aq⟩:=ag;subst ai aq;simp[dm.enc,b4.dec_enc r s l rest h]
 |iter=>
  cases b<;>simp only[dm.dec,reduceCtorEq,bs]at h;subst h;simp[dm.enc,kP,rE]
 |gone=>
  cases b<;>simp only[dm.dec,reduceCtorEq,bs]at h;subst h;simp[dm.enc]
 |loop Y R=>
  cases b<;>simp only[dm.dec,reduceCtorEq]at h;rename_i p7 R' p;cases ag:Nat.beq Y p7
  ·simp[ag]at h
  ·simp only[ag,aA]at h;have e:Y=p7:=by simpa using ag
   subst e;obtain ⟨m,hm,rfl⟩:=Option.map_eq_some_iff.1 h;have a1:=pG R R' m ([⟨.int .i64,p⟩]++rest) hm;rw[List.append_assoc];simp only[dm.enc,a1];simp only[kP,List.cons_append,List.nil_append,rE,Option.map_some]
theorem Xu: ∀(s:List dm) (R:List aG) (l rest:List dN),eW s R=some l->uT s (l++rest)=some (R,rest)
 |[],[],l,rest,h=>by
  simp only[eW,bs]at h;subst h;rfl
 |[],_::_,l,rest,h=>by simp[eW]at h
 |_::_,[],l,rest,h=>by simp[eW]at h
 |s::kO,r::rs,l,rest,h=>by
  simp only[eW]at h;split at h
  ·rename_i a aR;obtain ⟨b,ag,rfl⟩:=Option.map_eq_some_iff.1 h;have a1:=dm.dec_enc s r a (b++rest) aR;have k2:=Xu kO rs b rest ag;simp only[uT,List.append_assoc,a1,k2,Option.map_some]
  ·cases h
theorem Shape.dec_enc {S:Shape} {st:bn} {s:S.ty.den} (h:S.dec st=some s):S.enc s=st:=by
 unfold Shape.dec at h;cases aR:hA S.regs st.regs with
 |none=>simp[aR]at h
 |some a=>
  cases ag:eW S.objs st.heap with
  |none=>simp[aR,ag]at h
  |some b=>
   simp only[aR,ag]at h;have aP:S.ty.parts s=a++b:=Wz _ _ s h;unfold Shape.enc;rw[aP,pG _ _ a b aR];have:=Xu _ _ b [] ag;rw[List.append_nil]at this;simp only[this]
open Go.RowKit
structure fN [Env] (φ:bw) (ι:Nat->Value) (w:World) (H:List aG) (n:Nat) (φ':bw) (ι':Nat->Value) (aC:List aG) (aI:Nat):Prop where
 rel:bP φ' ι' w aC
 step:Step φ ι w H φ' ι' w aC
 keep:dA ι H ι' aC
 top:aI=aC.length
section
variable {φ:bw} {ι:Nat->Value} {w:World} {H:List aG} {n:Nat} {aC:List aG} {aI:Nat}
theorem fN.refl [Env] (h:bP φ ι w H) (aQ:n=H.length):fN φ ι w H n φ ι H n:=⟨h,Step.refl _ _ _ _,dA.refl _ _,aQ⟩
theorem fN.trans [Env] {cU:bw} {ep:Nat->Value} {H1:List aG} {cC:Nat} {du:bw} {dz:Nat->Value} {ef:List aG} {dj:Nat} (a:fN φ ι w H n cU ep H1 cC) (b:fN cU ep w H1 cC du dz ef dj):fN φ ι w H n du dz ef dj:=
 ⟨b.rel,a.step.trans b.step,a.keep.trans b.keep,b.top⟩
theorem fN.ghost [Env] {φ':bw} (g:ee φ ι w H φ' aC) (aQ:n=H.length):fN φ ι w H n φ' ι aC n:=⟨g.rel,g.step,g.keep,by rw[g.len,aQ]⟩
theorem fN.of_yld [Env] {r:ae} {v:Value} (y:ch φ ι w H n r aC aI (.ok v w)) (aQ:n=H.length): ∃φ' ι',fN φ ι w H n φ' ι' aC aI/\r.rel φ' ι' w v/\ ∀i∈r.ids,(aF aC i).live=true:=by
 obtain ⟨jR,w',φ',ι',e,aa,ad,al,aE,aZ,bt⟩:=y;injection e with ai aq
 subst ai aq;exact ⟨φ',ι',⟨aa,ad,al,(aE.seq aQ).symm⟩,aZ,bt⟩
theorem amZ [Env] (h:bP φ ι w H) {t u:aD} {o ab:Nat} {e:TypeId} {xs:List u.den} {v:Value} (az:(ae.view t o 0 ab).rel φ ι w v) (an:aF H o=.arr e u xs false) (aQ:n=H.length):
  ∃φ' ι',fN φ ι w H n φ' ι' (bL (bL H o .gone) n (.arr e u (xs.take ab) false)) (n+1)/\(ae.own u n).rel φ' ι' w v/\ ∀i∈(ae.own u n).ids,(aF (bL (bL H o .gone) n (.arr e u (xs.take ab) false)) i).live=true:=by
 obtain ⟨A,m,c,A',ai,bX,aa,ad,rfl,al,aE⟩:=az;have cP:=h.obj o;rw[an]at cP;obtain ⟨hQ,cr,aY,f1,f2,f3,f4,f5⟩:=cP;rw[ai]at f1;obtain ⟨rfl,rfl,rfl⟩:=hh f1;have mD:(aF H o).owns=true:=by rw[an];rfl
 have gB:(aF H n).live=false:=by rw[aQ,nv (Nat.le_refl _)];rfl
 have zn:c≠0->A'=A:=by
  intro aB;obtain ⟨b,bk,ag⟩:=aE aB;rw[al aB,ag];simp[fY]
 obtain ⟨a1,k2,b5,dD⟩:=uG (φ':=φ) (w':=w) h mD (by omega) gB (v:=.slice A' (ab-0) (c-0)) (ob:=.arr e u (xs.take ab) false) rfl rfl rfl rfl rfl (Nat.le_refl _) (fun _ _ _=>rfl) (fun _ _ h=>h) (fun _ _ _=>rfl) (fun _ _ h=>.inl h)
  (fun b ag=>by
   right;rw[ai];by_cases aB:c=0
   ·subst aB;cases A'<;>simp[c1]at ag
   ·rw[zn aB]at ag;cases A<;>simp[c1,aB]at ag ⊢;exact ag)
  (by
   refine ⟨A',ab-0,c-0,by simp[dw],by simp;omega,by omega,by omega,?_⟩;rcases f5 with f5 |⟨b,pre,cur,fr,g1,g2,g3,g4,g0,g5,g6,g7,g8⟩
   ·left;omega
   ·by_cases aB:c=0
    ·left;omega
    ·right;refine ⟨b,pre,cur,fr,(zn aB).trans g1,g2,by simpa using g3,g4,g0,⟨g5.one,g5.at_ g6 _⟩,?_,fun k av=>(by have:=(g7 k av).1;cases this),fun h=>(by cases h)⟩;have:=g6.take (fun x c=>bg.len u x c) ab;rw[List.take_take]at this;rw[Nat.sub_zero]
     rwa [Nat.min_eq_left (Nat.mul_le_mul_right _ aa)]at this)
 refine ⟨φ,_,⟨a1,k2,b5,(dD.seq aQ).symm⟩,sa ⟨by simp[dw],_,_,_,rfl⟩,?_⟩;intro i ab;have:i=n:=by simpa [ae.ids] using ab
 subst this;have ao:(bL H o .gone).length=H.length:=gK H o _ (fl (by rw[an];rfl));rw[fk _ i _ i (by omega),if_pos rfl];rfl
theorem amY [Env] (h:bP φ ι w H) {u:aD} {o lo ab:Nat} {e:TypeId} {xs:List u.den} {v:Value} (az:(ae.view u o lo ab).rel φ ι w v) (an:aF H o=.arr e u xs false) (aQ:n=H.length):
  ∃φ' ι',fN φ ι w H n φ' ι' (bL (bL H o .gone) n (.arr e u ((xs.take ab).drop lo) false)) (n+1)/\(ae.own u n).rel φ' ι' w v/\ ∀i∈(ae.own u n).ids,(aF (bL (bL H o .gone) n (.arr e u ((xs.take ab).drop lo) false)) i).live=true:=by
 obtain ⟨A,m,c,A',ai,bX,aa,ad,rfl,al,aE⟩:=az;have cP:=h.obj o;rw[an]at cP;obtain ⟨hQ,cr,aY,f1,f2,f3,f4,f5⟩:=cP;rw[ai]at f1;obtain ⟨rfl,rfl,rfl⟩:=hh f1;have mD:(aF H o).owns=true:=by rw[an];rfl
 have gB:(aF H n).live=false:=by rw[aQ,nv (Nat.le_refl _)];rfl
 have zn:c≠lo-> ∃b bk,A=some ⟨b,bk,none⟩/\A'=some ⟨b,bk+lo*u.size,none⟩:=by
  intro aB;obtain ⟨b,bk,ag⟩:=aE (by omega);refine ⟨b,bk,ag,?_⟩;rw[al aB,ag];simp[fY]
 obtain ⟨a1,k2,b5,dD⟩:=uG (φ':=φ) (w':=w) h mD (by omega) gB (v:=.slice A' (ab-lo) (c-lo)) (ob:=.arr e u ((xs.take ab).drop lo) false) rfl rfl rfl rfl rfl (Nat.le_refl _) (fun _ _ _=>rfl) (fun _ _ h=>h) (fun _ _ _=>rfl) (fun _ _ h=>.inl h)
  (fun b ag=>by
   right;rw[ai];by_cases aB:c=lo
   ·rw[aB,Nat.sub_self]at ag;cases A'<;>simp[c1]at ag
   ·obtain ⟨bJ,bk,rfl,rfl⟩:=zn aB;have a8:lo<c:=Nat.lt_of_le_of_ne (Nat.le_trans bX (Nat.le_trans aa ad)) (Ne.symm aB);have my:c-lo≠0:=Nat.sub_ne_zero_of_lt a8;have j3:c≠0:=Nat.pos_iff_ne_zero.1 (Nat.lt_of_le_of_lt (Nat.zero_le lo) a8);simp only[c1,if_neg my,if_neg j3]at ag ⊢;exact ag)
  (by
   refine ⟨A',ab-lo,c-lo,by simp[dw],by simp;omega,by omega,by omega,?_⟩;by_cases aB:c=lo
   ·left;omega
   ·rcases f5 with f5 |⟨b,pre,cur,fr,g1,g2,g3,g4,g0,g5,g6,g7,g8⟩
    ·left;omega
    ·right;obtain ⟨bJ,bk,bh,bZ⟩:=zn aB;rw[g1]at bh;injection bh with bh
     injection bh with bh OH
     subst bh OH;have aaV:lo*u.size<=cur.toList.length:=by
      rw[Array.length_toList,g3];exact Nat.mul_le_mul_right _ (by omega)
     have art:(pre.toList++cur.toList.take (lo*u.size)).toArray++(cur.toList.drop (lo*u.size)).toArray=pre++cur:=by
      apply Array.ext';simp
     have aa7:((pre.toList++cur.toList.take (lo*u.size)).toArray).size=pre.size+lo*u.size:=by
      simp only[List.size_toArray,List.length_append,List.length_take,Array.length_toList]at aaV ⊢;omega
     have jD:((cur.toList.drop (lo*u.size)).toArray).size=cur.size-lo*u.size:=by simp
     rw[Array.length_toList]at aaV;have hmul:(ab-lo)*u.size=ab*u.size-lo*u.size:=Nat.sub_mul _ _ _;have avm:lo*u.size<=ab*u.size:=Nat.mul_le_mul_right _ bX;refine ⟨b,(pre.toList++cur.toList.take (lo*u.size)).toArray,(cur.toList.drop (lo*u.size)).toArray,fr,by rw[bZ,aa7],by rw[art];exact g2,by rw[jD,g3,<-Nat.sub_mul],by rw[aa7,jD,show pre.size+lo*u.size+(cur.size-lo*u.size)=pre.size+cur.size by omega];exact g4,?_,⟨?_,?_⟩,?_,fun k av=>(by have:=(g7 k av).1;cases this),fun h=>(by cases h)⟩
     ·intro x aw;rcases List.mem_append.1 aw with aw |aw
      ·exact g0 x aw
      ·exact g5.one x (List.mem_of_mem_take aw)
     ·intro x aw;exact g5.one x (List.mem_of_mem_drop aw)
     ·have:=g5.at_ g6 ab;refine this.imp id fun ⟨zs,bz⟩=>⟨zs,?_⟩
      show cw _ _ ((cur.toList.drop (lo*u.size)).drop ((ab-lo)*u.size));rw[List.drop_drop,show lo*u.size+(ab-lo)*u.size=ab*u.size by omega];exact bz
     ·have:=(g6.take (fun x c=>bg.len u x c) ab).drop (fun x c=>bg.len u x c) lo;have o4:(cur.toList.take (ab*u.size)).drop (lo*u.size)=(cur.toList.drop (lo*u.size)).take ((ab-lo)*u.size):=by rw[List.drop_take,hmul]
      rw[List.take_take,Nat.min_eq_left (Nat.mul_le_mul_right _ aa),o4]at this;exact this)
 refine ⟨φ,_,⟨a1,k2,b5,(dD.seq aQ).symm⟩,sa ⟨by simp[dw],_,_,_,rfl⟩,?_⟩;intro i ab;have:i=n:=by simpa [ae.ids] using ab
 subst this;have ao:(bL H o .gone).length=H.length:=gK H o _ (fl (by rw[an];rfl));rw[fk _ i _ i (by omega),if_pos rfl];rfl
mutual
theorem IQ [Env]: ∀(s:b4) (r fB:ae) (v:Value) (φ:bw) (ι:Nat->Value) (H:List aG) (n:Nat) (aC:List aG) (aI:Nat),(ym s r).go H n=some (fB,aC,aI)->n=H.length->bP φ ι w H->r.rel φ ι w v->(∀i∈r.ids,(aF H i).live=true)->
  ∃φ' ι',fN φ ι w H n φ' ι' aC aI/\fB.rel φ' ι' w v/\ ∀i∈fB.ids,(aF aC i).live=true:=by
 intro s r fB v φ ι H n aC aI e aQ h az ao;unfold ym at e;split at e
 ·rename_i t r;obtain ⟨x,H1,cC,ai,aq⟩:=HM.go_bind_some e;obtain ⟨rfl,rfl,rfl⟩:=go_ret aq;have q:=CX ai h az ao;clear ai e aq;obtain ⟨aa,cU,g,aX⟩:=q;subst aa;exact ⟨cU,ι,fN.ghost g aQ,gz aX,by simp[ae.ids]⟩
 ·rename_i a b b8 t;simp only[HM.go]at e;obtain ⟨rfl,rfl,rfl⟩:=go_ret e;have az:v=.slice none 0 0:=az;subst az;exact fN.of_yld (ZM h (by omega) (by rw[aQ,nv (Nat.le_refl _)];rfl)) aQ
 ·rename_i a b t o ab;simp only[HM.go]at e;split at e
  ·rename_i b8 u xs an;simp only[HM.go]at e;obtain ⟨rfl,rfl,rfl⟩:=go_ret e;exact amZ h az an aQ
  ·simp[HM.go]at e
 ·rename_i a b t o lo ab _;simp only[HM.go]at e;split at e
  ·rename_i b8 u xs an;have q:=go_bif e;clear e;obtain ⟨hu,e⟩:=q;have hu:u=t:=by simpa using hu
   subst hu;simp only[HM.go]at e;obtain ⟨rfl,rfl,rfl⟩:=go_ret e;exact amY h az an aQ
  ·simp[HM.go]at e
 ·rename_i l m;obtain ⟨pD,H1,cC,ai,aq⟩:=HM.go_bind_some e;obtain ⟨rfl,rfl,rfl⟩:=go_ret aq;obtain ⟨cs,rfl,az⟩:=az;obtain ⟨cU,ep,t,a1,k2⟩:=UK l m pD cs.toList φ ι H n _ _ ai aQ h az (fun i ab=>ao i (by simpa [ae.ids] using ab));exact ⟨cU,ep,t,DN ⟨cs,rfl,a1⟩,fun i ab=>k2 i (by simpa [ae.ids] using ab)⟩
 ·obtain ⟨rfl,rfl,rfl⟩:=go_ret e;exact ⟨φ,ι,fN.refl h aQ,az,ao⟩
theorem UK [Env]: ∀(s:List b4) (l eI:List ae) (cs:List Value) (φ:bw) (ι:Nat->Value) (H:List aG) (n:Nat) (aC:List aG) (aI:Nat),(DC s l).go H n=some (eI,aC,aI)->n=H.length->bP φ ι w H->ae.relL φ ι w l cs->(∀i∈ae.idsL l,(aF H i).live=true)->
  ∃φ' ι',fN φ ι w H n φ' ι' aC aI/\ae.relL φ' ι' w eI cs/\ ∀i∈ae.idsL eI,(aF aC i).live=true:=by
 intro s l eI cs φ ι H n aC aI e aQ h az ao;unfold DC at e;split at e
 ·rename_i s kO r rs;obtain ⟨ar,H1,cC,ai,aq⟩:=HM.go_bind_some e;obtain ⟨dd,ef,dj,bb,bx⟩:=HM.go_bind_some aq;obtain ⟨rfl,rfl,rfl⟩:=go_ret bx;obtain ⟨v,aY,rfl,aa,ad⟩:=az;obtain ⟨cU,ep,t1,a1,k2⟩:=IQ s r ar v φ ι H n H1 cC ai aQ h aa (fun i ab=>ao i (by simp[ae.idsL,ab]));obtain ⟨du,dz,t2,b5,dD⟩:=UK kO rs dd aY cU ep H1 cC _ _ bb t1.top t1.rel (ae.relL_mono t1.step.phi t1.step.cells rs aY (fun i ab=>t1.keep.iota i (ao i (by simp[ae.idsL,ab]))) ad) (fun i ab=>t1.keep.live i (ao i (by simp[ae.idsL,ab])));refine ⟨du,dz,t1.trans t2,⟨v,aY,rfl,ae.rel_step t2.step t2.keep k2 a1,b5⟩,fun i ab=> ?_⟩;simp only[ae.idsL,List.mem_append]at ab;rcases ab with ab |ab
  ·exact t2.keep.live i (k2 i ab)
  ·exact dD i ab
 ·obtain ⟨rfl,rfl,rfl⟩:=go_ret e;exact ⟨φ,ι,fN.refl h aQ,az,ao⟩
end
end
open Go.RowKit
def k0 (φ:bw) (ι:Nat->Value) (w:World) (H:List aG) (R:bD) (tm:Nat->Value):Prop:= ∀d r,R.get d=some r->r.rel φ ι w (tm d)/\ ∀i∈r.ids,(aF H i).live=true
def gH (m:Nat) (ι:Nat->Value) (H:List aG) (ι':Nat->Value) (aC:List aG):Prop:= ∀o,o<m->(aF H o).live=true->ι' o=ι o/\(aF aC o).live=true
def fA (m:Nat) (H:List aG):Prop:= ∀o,o<m->(aF H o).live=true
theorem dA.keepM {ι ι':Nat->Value} {H aC:List aG} (k:dA ι H ι' aC) (m:Nat):gH m ι H ι' aC:=fun o _ h=>⟨k.iota o h,k.live o h⟩
theorem gH.refl (m:Nat) (ι:Nat->Value) (H:List aG):gH m ι H ι H:=fun _ _ h=>⟨rfl,h⟩
theorem gH.trans {m:Nat} {ι ι' gf:Nat->Value} {H aC kV:List aG} (h:gH m ι H ι' aC) (k:gH m ι' aC gf kV):gH m ι H gf kV:=
 fun o an ao=>let ⟨aa,ad⟩:=h o an ao;let ⟨a1,k2⟩:=k o an ad;⟨a1.trans aa,k2⟩
theorem gH.live {m:Nat} {ι ι':Nat->Value} {H aC:List aG} (k:gH m ι H ι' aC) (l:fA m H):fA m aC:=fun o an=>(k o an (l o an)).2
section
variable {φ:bw} {ι:Nat->Value} {w:World} {H:List aG} {n:Nat} {aC:List aG} {aI:Nat} {tm:Nat->Value}
theorem k0.step {φ':bw} {ι':Nat->Value} {w':World} {R:bD} (s:Step φ ι w H φ' ι' w' aC) (k:dA ι H ι' aC) (h:k0 φ ι w H R tm):k0 φ' ι' w' aC R tm:=
 fun d r az=>⟨ae.rel_step s k (h d r az).2 (h d r az).1,fun i ab=>k.live i ((h d r az).2 i ab)⟩
theorem ahN [Env]: ∀(os:List Nat) (kO:List dm) (u:Unit) (φ:bw) (ι:Nat->Value) (H:List aG) (n:Nat) (aC:List aG) (aI:Nat),(pF os kO).go H n=some (u,aC,aI)->n=H.length->bP φ ι w H->
  ∃φ' ι',fN φ ι w H n φ' ι' aC aI:=by
 intro os kO u φ ι H n aC aI e aQ h
 induction os generalizing kO φ ι H n with
 |nil=>
  unfold pF at e;obtain ⟨-,rfl,rfl⟩:=go_ret e;exact ⟨φ,ι,fN.refl h aQ⟩
 |cons o l aO=>
  unfold pF at e;split at e
  ·rename_i de eI auM t0 s m heq;injection heq with bh bZ
   subst bh bZ;simp only[HM.go]at e;split at e
   ·rename_i jT t1 r ag;obtain ⟨fB,H1,cC,ai,aq⟩:=HM.go_bind_some e;have cP:=h.obj o;rw[ag]at cP;obtain ⟨b,cur,fr,v,g1,g2,g3,g4,g5,g6,g7,g8,g9⟩:=cP;have eH:(aF H o).live=true:=by rw[ag];rfl
    obtain ⟨cU,ep,t,a1,k2⟩:=IQ s r fB v φ ι H n H1 cC ai aQ h g6 (fun i ab=>h.idsB o jT t1 r ag i ab);clear e ai;simp only[HM.go]at aq;split at aq
    ·rename_i T t2 aM dB;have q:=go_bif aq;clear aq;obtain ⟨aJ,bb⟩:=q;simp only[HM.go]at bb;have zP:=t.rel.obj o;rw[dB]at zP;obtain ⟨bJ,apw,aab,jR,f1,f2,f3,f4,f5,f6,f7,f8,f9⟩:=zP;have zK:o<H1.length:=fl (by rw[dB];rfl);have hJ:ep o=ι o:=t.keep.iota o eH;rw[hJ,g1]at f1;have nV:b=bJ:=by simpa using f1
     subst nV;have sJ:cur=apw/\fr=aab:=by
      rw[g2]at f2;have f2:=Option.some.inj f2;injection f2 with bh bZ da
      exact ⟨bh,da⟩
     obtain ⟨rfl,rfl⟩:=sJ;have bo: ∀i,aF (bL H1 o (.box T t2 fB)) i=if i=o then .box T t2 fB else aF H1 i:=fun i=>fk H1 o _ i (Nat.le_of_lt zK)
     have lj: ∀i,(aF (bL H1 o (.box T t2 fB)) i).owns=(aF H1 i).owns:=fun i=>by
      rw[bo];split
      ·rename_i e;subst e;rw[dB];rfl
      ·rfl
     have ei: ∀i,(aF (bL H1 o (.box T t2 fB)) i).live=(aF H1 i).live:=fun i=>by
      rw[bo];split
      ·rename_i e;subst e;rw[dB];rfl
      ·rfl
     have dy:bP cU ep w (bL H1 o (.box T t2 fB)):=by
      refine t.rel.update (fun i=>i=o) (fun i ab=>by rw[bo,if_neg ab]) (fun _ _=>rfl) (fun i ab=>by rw[ei];exact ab) (fun i ab=> ?_) (fun i ab j ay=> ?_) (fun _ _ _ _ _=>rfl) (fun _ _ _=>rfl) (fun i j bJ _ aa ad al aE=> ?_)
      ·subst ab;rw[bo,if_pos rfl];exact ⟨b,cur,fr,v,hJ.trans g1,f2,f3,f4,f5,a1,g7,aJ,f9⟩
      ·subst ab;rw[bo,if_pos rfl]at ay;rw[ei];exact k2 j ay
      ·rw[lj]at aa ad;exact t.rel.apart i j bJ aa ad al aE
     have t2:fN cU ep w H1 cC cU ep (bL H1 o (.box T t2 fB)) cC:=
      ⟨dy,⟨fun _ _ h=>h,fun _ _ _=>rfl,fun _ _ h=>.inl h,Nat.le_refl _,rfl,rfl,rfl,fun _ _ _=>rfl,fun b ⟨i,aa,ad⟩=>.inr ⟨i,by rw[<-lj];exact aa,ad⟩⟩,⟨fun _ _=>rfl,fun i ab=>by rw[ei];exact ab⟩,by rw[gK H1 o _ zK];exact t.top⟩
     obtain ⟨kU,kT,t3⟩:=aO m cU ep _ cC bb t2.top dy;exact ⟨kU,kT,(t.trans t2).trans t3⟩
    ·simp[HM.go]at aq
   ·simp[HM.go]at e
  ·rename_i de eI b8 t0 m heq;injection heq with bh bZ
   subst bh bZ;simp only[HM.go]at e;split at e
   ·rename_i ai t1 xs fz ag;simp only[HM.go]at e;obtain ⟨cU,g,-⟩:=IT h o (fl (by rw[ag];rfl));have t1:=fN.ghost g aQ;obtain ⟨kU,kT,t3⟩:=aO m cU ι _ n e t1.top g.rel;exact ⟨kU,kT,t1.trans t3⟩
   ·simp[HM.go]at e
  ·rename_i de eI m heq;injection heq with bh bZ
   subst bh bZ;simp only[HM.go]at e;split at e
   ·rename_i ai t1 xs fz ag;simp only[HM.go]at e;have zK:o<H.length:=fl (by rw[ag];rfl);have bo: ∀i,aF (bL H o .gone) i=if i=o then .gone else aF H i:=fun i=>fk H o _ i (Nat.le_of_lt zK)
    have lj: ∀i,(aF (bL H o .gone) i).owns=true->(aF H i).owns=true:=fun i=>by
     rw[bo];split
     ·intro aw;cases aw
     ·exact fun aw=>aw
    have ei: ∀i,(aF (bL H o .gone) i).live=(aF H i).live:=fun i=>by
     rw[bo];split
     ·rename_i e;subst e;rw[ag];rfl
     ·rfl
    have dy:bP φ ι w (bL H o .gone):=by
     refine h.update (fun i=>i=o) (fun i ab=>by rw[bo,if_neg ab]) (fun _ _=>rfl) (fun i ab=>by rw[ei];exact ab) (fun i ab=> ?_) (fun i ab j ay=> ?_) (fun _ _ _ _ _=>rfl) (fun _ _ _=>rfl) (fun i j bJ ab aa ad al aE=> ?_)
     ·subst ab;rw[bo,if_pos rfl];exact trivial
     ·subst ab;rw[bo,if_pos rfl]at ay;simp[aG.ids]at ay
     ·subst ab;rw[bo,if_pos rfl]at aa;cases aa
    have t2:fN φ ι w H n φ ι (bL H o .gone) n:=
     ⟨dy,⟨fun _ _ h=>h,fun _ _ _=>rfl,fun _ _ h=>.inl h,Nat.le_refl _,rfl,rfl,rfl,fun _ _ _=>rfl,fun b ⟨i,aa,ad⟩=>.inr ⟨i,lj i aa,ad⟩⟩,⟨fun _ _=>rfl,fun i ab=>by rw[ei];exact ab⟩,by rw[gK H o _ zK];exact aQ⟩
    obtain ⟨kU,kT,t3⟩:=aO m φ ι _ n e t2.top dy;exact ⟨kU,kT,t2.trans t3⟩
   ·exact aO m φ ι H n e aQ h
  ·rename_i x eI y m cf avp avq heq;injection heq with bh bZ
   subst bh bZ;exact aO m φ ι H n e aQ h
  ·obtain ⟨-,rfl,rfl⟩:=go_ret e;exact ⟨φ,ι,fN.refl h aQ⟩
theorem bD.get_ren (ρ:Nat->Nat) (R:bD) (d:Nat):(R.ren ρ).get d=(R.get d).map (ae.ren ρ):=by
 induction R with
 |nil=>rfl
 |cons p l aO=>
  obtain ⟨e,r⟩:=p;simp only[bD.ren,bD.get];cases Nat.beq d e
  ·simpa using aO
  ·rfl
theorem bD.get_ids {R:bD} {d:Nat} {r:ae} (h:R.get d=some r): ∀i∈r.ids,i∈R.ids:=by
 induction R with
 |nil=>simp[bD.get]at h
 |cons p l aO=>
  obtain ⟨e,x⟩:=p;simp only[bD.get]at h;intro i ab;simp only[bD.ids,List.mem_append];cases ag:Nat.beq d e
  ·simp only[ag,aL]at h;exact .inr (aO h i ab)
  ·simp only[ag,aA,bs]at h;subst h;exact .inl ab
theorem TY [Env]: ∀(s:List (Nat×b4)) (R R':bD) (φ:bw) (ι:Nat->Value) (H:List aG) (n:Nat) (aC:List aG) (aI:Nat),(BR s R).go H n=some (R',aC,aI)->n=H.length->bP φ ι w H->k0 φ ι w H R tm->
  ∃φ' ι',fN φ ι w H n φ' ι' aC aI/\k0 φ' ι' w aC R' tm/\ ∀i∈R'.ids,(aF aC i).live=true
 |[],R,R',φ,ι,H,n,aC,aI,e,aQ,h,az=>by
  simp only[BR]at e;obtain ⟨rfl,rfl,rfl⟩:=go_ret e;exact ⟨φ,ι,fN.refl h aQ,fun d r ax=>by simp[bD.get]at ax,by simp[bD.ids]⟩
 |(d,s)::l,R,R',φ,ι,H,n,aC,aI,e,aQ,h,az=>by
  simp only[BR]at e;split at e
  ·rename_i r ax;obtain ⟨ar,H1,cC,ai,aq⟩:=HM.go_bind_some e;obtain ⟨hU,ef,dj,bb,bx⟩:=HM.go_bind_some aq;obtain ⟨rfl,rfl,rfl⟩:=go_ret bx;obtain ⟨cU,ep,t1,a1,k2⟩:=IQ s r ar (tm d) φ ι H n H1 cC ai aQ h (az d r ax).1 (az d r ax).2;obtain ⟨du,dz,t2,b5,dD⟩:=TY l R hU cU ep H1 cC _ _ bb t1.top t1.rel (az.step t1.step t1.keep);refine ⟨du,dz,t1.trans t2,fun e x aw=> ?_,fun i ab=> ?_⟩
   ·simp only[bD.get]at aw;cases ag:Nat.beq e d
    ·simp only[ag,aL]at aw;exact b5 e x aw
    ·simp only[ag,aA,bs]at aw;have:e=d:=by simpa using ag
     subst this aw;exact ⟨ae.rel_step t2.step t2.keep k2 a1,fun i ab=>t2.keep.live i (k2 i ab)⟩
   ·simp only[bD.ids,List.mem_append]at ab;rcases ab with ab |ab
    ·exact t2.keep.live i (k2 i ab)
    ·exact dD i ab
  ·simp[HM.go]at e
theorem WK [Env] {S:Shape} {m:Nat} {R:bD} {aV:bn} (e:(D4 S m R).go H n=some (aV,aC,aI)) (aQ:n=H.length) (h:bP φ ι w H) (az:k0 φ ι w H R tm) (hm:fA m H):
  ∃φ' ι',bP φ' ι' w aV.heap/\k0 φ' ι' w aV.heap aV.regs tm/\Step φ ι w H φ' ι' w aV.heap/\gH m ι H ι' aV.heap/\fA m aV.heap/\m<=aV.heap.length/\fA aV.heap.length aV.heap:=by
 unfold D4 at e;obtain ⟨hU,H1,cC,ai,aq⟩:=HM.go_bind_some e;obtain ⟨cU,ep,t1,a1,k2⟩:=TY S.regs R hU φ ι H n H1 cC ai aQ h az;clear e;obtain ⟨p,ef,dj,bb,bx⟩:=HM.go_bind_some aq;clear aq;obtain ⟨g1,g2,-⟩:=wV 200 _ [] [] p ef dj bb rfl (by simp) (by simp);rw[g1,g2]at bx;obtain ⟨u,kg,n3,c9,cV⟩:=HM.go_bind_some bx;clear bx;obtain ⟨du,dz,t2⟩:=ahN p.1 S.objs u cU ep H1 cC kg n3 c9 t1.top t1.rel;have t:=t1.trans t2;obtain ⟨q,Hb,n4,iJ,k7⟩:=HM.go_bind_some cV;clear cV;have No:fA m kg:=fun o an=>t.keep.live o (hm o an)
 have gs:=wV 200 _ [] [] q Hb n4 iJ rfl (by simp) (by simp);obtain ⟨-,-,la,dq,-,ft⟩:=gs;have Nq:=ft t.rel.live_ids (fun i ab=>by
  rcases List.mem_append.1 ab with ab |ab
  ·exact No i (Yu.1 ab)
  ·exact t2.keep.live i (k2 i ab)) (by simp)
 obtain ⟨cr,Na⟩:=We (jv m) 200 hU.ids [] [] q Hb n4 iJ (by simpa using amR m);rw[List.nil_append]at Na;obtain ⟨rfl,-,-⟩:=go_ret k7;have b5:k0 du dz w kg hU tm:=a1.step t2.step t2.keep;have aaO: ∀o,o<m->q.1[o]? =some o:=fun o an=>by
  rw[Na,List.getElem?_append_left (by rw[YK];exact an)];exact aoN an
 have hlen:(q.2.map (aG.ren (idx q.1))).length=q.1.length:=by rw[la.obs];simp
 refine ⟨du,jw dz q.1,Zs t.rel la Nq,fun d r ax=> ?_,t.step.trans (aoG la),fun o an eH=> ?_,fun o an=> ?_,?_,fun o an=>Zr la Nq o an⟩
 ·simp only[bD.get_ren,Option.map_eq_some_iff]at ax;obtain ⟨x,aw,rfl⟩:=ax;have abl: ∀i∈x.ids,i∈q.1:=fun i ab=>dq i (List.mem_append.2 (.inr (bD.get_ids aw i ab)))
  refine ⟨ae.ren_rel _ x _ (fun i ab=>Dx (abl i ab)) (b5 d x aw).1,?_⟩;rw[ae.ren_ids];exact Y0 la Nq abl
 ·have aa:=aaO o an;refine ⟨?_,?_⟩
  ·have:jw dz q.1 o=dz o:=by simp[jw,List.getD_eq_getElem?_getD,aa]
   rw[this];exact t.keep.iota o eH
  ·show (aF (iX q.1 q.2) o).live=true;rw[l3 la aa,aG.ren_live];exact No o an
 ·show (aF (iX q.1 q.2) o).live=true;rw[l3 la (aaO o an),aG.ren_live];exact No o an
 ·simp only[hlen];rw[Na,List.length_append,YK];omega
theorem anA [Env] (h:bP φ ι w H) {o:Nat} {e:TypeId} {t:aD} {xs:List t.den} {fz:Bool} (an:aF H o=.arr e t xs fz) (aQ:n=H.length):
  fN φ ι w H n φ (dw ι n (ι o)) (bL (bL H o .gone) n (.arr e t xs fz)) (n+1):=by
 have cP:=h.obj o;rw[an]at cP;have mD:(aF H o).owns=true:=by rw[an];rfl
 have gB:(aF H n).live=false:=by rw[aQ,nv (Nat.le_refl _)];rfl
 obtain ⟨a1,k2,b5,dD⟩:=uG (φ':=φ) (w':=w) h mD (by omega) gB (v:=ι o) (ob:=.arr e t xs fz) rfl rfl rfl rfl rfl (Nat.le_refl _) (fun _ _ _=>rfl) (fun _ _ h=>h) (fun _ _ _=>rfl) (fun _ _ h=>.inl h)
  (fun b ag=>.inr ag) (by
   obtain ⟨A,m,c,f1,f2⟩:=cP;exact ⟨A,m,c,by simpa [dw] using f1,f2⟩)
 exact ⟨a1,k2,b5,(dD.seq aQ).symm⟩
theorem Gs [Env]: ∀(l:List dm) (o:Nat) (q:List (Nat×Nat)) (ι:Nat->Value) (H:List aG) (n:Nat) (aC:List aG) (aI:Nat),(tQ l o).go H n=some (q,aC,aI)->n=H.length->bP φ ι w H->
  ∃ι',fN φ ι w H n φ ι' aC aI/\(q=[]->aC=H/\aI=n/\ι'=ι)/\ ∀i,(aF aC i).live=true->ι' (fwd q i)=ι' i/\(aF aC (fwd q i)).live=true
 |[],o,q,ι,H,n,aC,aI,e,aQ,h=>by
  simp only[tQ]at e;obtain ⟨rfl,rfl,rfl⟩:=go_ret e;exact ⟨ι,fN.refl h aQ,fun _=>⟨rfl,rfl,rfl⟩,fun i ab=>⟨rfl,ab⟩⟩
 |s::l,o,q,ι,H,n,aC,aI,e,aQ,h=>by
  by_cases au:s=.gone
  ·subst au;simp only[tQ,HM.go]at e;split at e
   ·rename_i b8 t xs fz cP;simp only[HM.go]at e;obtain ⟨bZ,ef,dj,ai,aq⟩:=HM.go_bind_some e;obtain ⟨rfl,rfl,rfl⟩:=go_ret aq;have jT:=anA h cP aQ;have eH:(aF H o).live=true:=by rw[cP];rfl
    have a8:=fl eH;obtain ⟨ι',T2,-,al⟩:=Gs l (o+1) bZ _ _ _ _ _ ai jT.top jT.rel;refine ⟨ι',jT.trans T2,⟨fun aN=>(by cases aN),fun i ab=> ?_⟩⟩;have jj:o≠n:=by omega
    have aaN:(aF (bL (bL H o .gone) n (.arr b8 t xs fz)) n).live=true:=by
     rw[fk _ n _ n (by rw[gK H o _ a8];omega),if_pos rfl];rfl
    simp only[fwd];cases ag:Nat.beq i o
    ·simp only[aL];exact al i ab
    ·simp only[aA];have:i=o:=by simpa using ag
     subst this;refine ⟨?_,T2.keep.live _ aaN⟩;rw[T2.keep.iota _ aaN,T2.keep.iota _ (jT.keep.live _ eH),jT.keep.iota _ eH];simp[dw]
   ·exact Gs l (o+1) q ι H n aC aI e aQ h
  ·refine Gs l (o+1) q ι H n aC aI ?_ aQ h;cases s with
   |gone=>exact absurd rfl au
   |_=>exact e
theorem HV [Env] {ρ:Nat->Nat}: ∀(l:List Nat) (u:Unit) (H:List aG) (n:Nat) (aC:List aG) (aI:Nat),(uB ρ l).go H n=some (u,aC,aI)->n=H.length->bP φ ι w H->(∀i,(aF H i).live=true->ι (ρ i)=ι i/\(aF H (ρ i)).live=true)->
  fN φ ι w H n φ ι aC aI
 |[],u,H,n,aC,aI,e,aQ,h,Ae=>by
  simp only[uB]at e;obtain ⟨-,rfl,rfl⟩:=go_ret e;exact fN.refl h aQ
 |o::l,u,H,n,aC,aI,e,aQ,h,Ae=>by
  simp only[uB,HM.go]at e;split at e
  ·rename_i T t r cP;simp only[HM.go]at e;have a8:o<H.length:=fl (by rw[cP];rfl);have bo: ∀i,aF (bL H o (.box T t (r.ren ρ))) i=if i=o then .box T t (r.ren ρ) else aF H i:=fun i=>fk H o _ i (Nat.le_of_lt a8)
   have lj: ∀i,(aF (bL H o (.box T t (r.ren ρ))) i).owns=(aF H i).owns:=fun i=>by
    rw[bo];split
    ·rename_i e;subst e;rw[cP];rfl
    ·rfl
   have ei: ∀i,(aF (bL H o (.box T t (r.ren ρ))) i).live=(aF H i).live:=fun i=>by
    rw[bo];split
    ·rename_i e;subst e;rw[cP];rfl
    ·rfl
   have eu: ∀i∈r.ids,(aF H i).live=true:=fun i ab=>h.idsB o T t r cP i ab
   have dy:bP φ ι w (bL H o (.box T t (r.ren ρ))):=by
    refine h.update (fun i=>i=o) (fun i ab=>by rw[bo,if_neg ab]) (fun _ _=>rfl) (fun i ab=>by rw[ei];exact ab) (fun i ab=> ?_) (fun i ab j ay=> ?_) (fun _ _ _ _ _=>rfl) (fun _ _ _=>rfl) (fun i j bJ _ aa ad al aE=> ?_)
    ·subst ab;rw[bo,if_pos rfl];have aw:=h.obj i;rw[cP]at aw;obtain ⟨b,cur,fr,v,g1,g2,g3,g4,g5,g6,g7,g8,g9⟩:=aw;exact ⟨b,cur,fr,v,g1,g2,g3,g4,g5,ae.ren_rel ρ r v (fun j ay=>(Ae j (eu j ay)).1) g6,g7,by rw[ae.ren_fits];exact g8,g9⟩
    ·subst ab;rw[bo,if_pos rfl]at ay;have ay:j∈(r.ren ρ).ids:=ay;rw[ae.ren_ids]at ay;obtain ⟨k,av,rfl⟩:=List.mem_map.1 ay;rw[ei];exact (Ae k (eu k av)).2
    ·rw[lj]at aa ad;exact h.apart i j bJ aa ad al aE
   have jT:fN φ ι w H n φ ι (bL H o (.box T t (r.ren ρ))) n:=
    ⟨dy,⟨fun _ _ h=>h,fun _ _ _=>rfl,fun _ _ h=>.inl h,Nat.le_refl _,rfl,rfl,rfl,fun _ _ _=>rfl,fun b ⟨i,aa,ad⟩=>.inr ⟨i,by rw[<-lj];exact aa,ad⟩⟩,⟨fun _ _=>rfl,fun i ab=>by rw[ei];exact ab⟩,by rw[gK H o _ a8];exact aQ⟩
   exact jT.trans (HV l u _ n _ _ e jT.top dy (fun i ab=>by
    rw[ei]at ab ⊢;exact Ae i ab))
  ·exact HV l u H n aC aI e aQ h Ae
theorem XE [Env] {S:Shape} {m:Nat} {R:bD} {aV:bn} (e:(yD S m R).go H n=some (aV,aC,aI)) (aQ:n=H.length) (h:bP φ ι w H) (az:k0 φ ι w H R tm) (hm:fA m H):
  ∃φ' ι',bP φ' ι' w aV.heap/\k0 φ' ι' w aV.heap aV.regs tm/\Step φ ι w H φ' ι' w aV.heap/\gH m ι H ι' aV.heap/\fA m aV.heap/\m<=aV.heap.length/\fA aV.heap.length aV.heap:=by
 unfold yD at e;obtain ⟨q,H1,cC,ai,aq⟩:=HM.go_bind_some e;obtain ⟨ep,jT,bX,aJ⟩:=Gs _ 0 q ι H n H1 cC ai aQ h;split at aq
 ·obtain ⟨rfl,rfl,rfl⟩:=bX rfl;exact WK aq aQ h az hm
 ·obtain ⟨p,ef,dj,bb,bx⟩:=HM.go_bind_some aq;obtain ⟨g1,g2,-⟩:=wV 200 _ [] [] p ef dj bb rfl (by simp) (by simp);rw[g1,g2]at bx;obtain ⟨u,kg,n3,c9,cV⟩:=HM.go_bind_some bx;have T2:=HV p.1 u H1 cC kg n3 c9 jT.top jT.rel aJ;have T:=jT.trans T2;have arj:k0 φ ep w kg (R.ren (fwd q)) tm:=by
   intro d r ax;rw[bD.get_ren]at ax;obtain ⟨x,aw,rfl⟩:=Option.map_eq_some_iff.1 ax;obtain ⟨a1,k2⟩:=az.step jT.step jT.keep d x aw;refine ⟨ae.ren_rel _ x _ (fun i ab=>(aJ i (k2 i ab)).1) a1,fun i ab=> ?_⟩;rw[ae.ren_ids]at ab;obtain ⟨j,ay,rfl⟩:=List.mem_map.1 ab;exact T2.keep.live _ (aJ j (k2 j ay)).2
  have sL:fA m kg:=fun o an=>T.keep.live o (hm o an)
  obtain ⟨φ',ι',en,a2,a3,a4,a5,oJ,xD⟩:=WK cV T.top T.rel arj sL;exact ⟨φ',ι',en,a2,T.step.trans a3,fun o an ao=>⟨((a4 o an (sL o an)).1).trans (T.keep.iota o ao),(a4 o an (sL o an)).2⟩,a5,oJ,xD⟩
theorem j1 [Env] {S:Shape} {m:Nat} {nt:hR} {st:bn} {a:Act} {s:S.ty.den} (e:(S.take m st).val=some s) (bV:cL φ ι w nt st a) (hm:fA m st.heap):
  ∃φ' ι',cL φ' ι' w nt (S.enc s) a/\Step φ ι w st.heap φ' ι' w (S.enc s).heap/\gH m ι st.heap ι' (S.enc s).heap/\m<=(S.enc s).heap.length/\fA (S.enc s).heap.length (S.enc s).heap:=by
 unfold Shape.take at e;obtain ⟨⟨aV,ca,aI,p'⟩,ai,aq⟩:=DT.val_bind_some e;simp only[DT.val_ofOpt]at aq;have bb:=Shape.dec_enc aq;obtain ⟨φ',ι',a1,k2,b5,dD,fZ,hj,vZ⟩:=XE (tm:=lu a) (HM.go_run _ _ _ _ _ _ _ _ ai) rfl bV.heap bV.regs hm;rw[bb];exact ⟨φ',ι',⟨a1,k2,bV.nt,bV.small,bV.defers.step b5⟩,b5,dD,hj,vZ⟩
end
open Go.RowKit
def fS (nt:Nat):Code->Bool
 | .region _ ops _=>ops.toList.all (nM nt)
 | .seq a b=>fS nt a&&fS nt b
 | .cond _ a b=>fS nt a&&fS nt b
 | .block _ c=>fS nt c
 | .loop c=>fS nt c
 | .scope c=>fS nt c
 |_=>true
section
variable {P:Program} {Q:Exit->Act->World->Prop} {a:Act} {w:World}
variable {F:Fence} {n:Nat}
theorem wN {c:Code} {b:Frame} {k:List Item} {cs:List Frame}:step P (lone (b.atR a (.code (.scope c)::k)) cs w)=.next (lone (b.atR a (.code c:: .inScope c::k)) cs w):=
 step_lone_go (by simp[stepG,stepG.exec,Frame.atR])
theorem ajM {c:Code} {b:Frame} {k:List Item} {cs:List Frame}:step P (lone (b.atR a (.inScope c::k)) cs w)=.next (lone (b.atR a k) cs w):=
 step_lone_go (by simp[stepG,stepG.exec,Frame.atR])
def af6 (Q:Exit->Act->World->Prop):Exit->Act->World->Prop
 | .goto _,_,_=>False
 |e,a,w=>Q e a w
theorem W6 {c:Code} (h:c.wpIn F n P (af6 Q) a w):(Code.scope c).wpIn F n P Q a w:=by
 intro b k cs bY ag az;have bX:(lone (b.atR a (.code (.scope c)::k)) cs w).fenced P F:=fenced_calm ag az rfl;obtain ⟨e,yE,Bv,aN,gk⟩:=h b (.inScope c::k) cs bY ag az;cases e with
 |normal=>exact ⟨.normal,yE,Bv,aN,.head bX wN (StepsIn.trans gk (.one (fenced_calm ag az rfl) ajM))⟩
 |exit id=>
  have aw:exitTo id (.inScope c::k)=exitTo id k:=by simp[exitTo]
  exact ⟨.exit id,yE,Bv,aN,fun k' av=>.head bX wN (gk.1 k' (by rw[aw];exact av)),
   fun ND av=>let ⟨k₁,aa,ad⟩:=gk.2 ND (by rw[aw];exact av);⟨k₁,aa,.head bX wN ad⟩⟩
 |goto l=>exact aN.elim
 |ret=>exact ⟨_,yE,Bv,aN,.of_steps (.one bX wN) gk⟩
 |panic kq=>exact ⟨_,yE,Bv,aN,.of_steps (.one bX wN) gk⟩
 |outgrown=>exact ⟨_,yE,Bv,aN,.of_steps (.one bX wN) gk⟩
end
def jt:dv->Exit
 | .nrm=>.normal | .exit i=>.exit i | .ret=>.ret
section
variable {P:Program} {cx:bS} {Γ:gg} {φ:bw} {ι:Nat->Value} {w:World} {nt:hR} {st aV:bn} {a:Act} {ops:Array Oper}
theorem alV (H:List aG) (k i:Nat):aF (H++List.replicate k .hole) i=aF H i:=by
 unfold aF;simp only[List.getD_eq_getElem?_getD];rcases Nat.lt_or_ge i H.length with h |h
 ·rw[List.getElem?_append_left h]
 ·rw[List.getElem?_append_right h,List.getElem?_eq_none h];rcases Nat.lt_or_ge (i-H.length) k with ad |ad
  ·simp[List.getElem?_replicate,ad]
  ·simp[List.getElem?_replicate,Nat.not_lt.2 ad]
theorem alu [Env] (tab:cA P cx) (cE:bO P Γ) (hm:P.follows .mixedOrders=true) {draw:Bool} {id:Nat} {Q:Exit->Act->World->Prop} (e:(KC cx Γ ops draw st).val=some aV) (s:cL φ ι w nt st a) (ax:ops.toList.all (nM nt.n)=true) (ia:ops.toList.any sv=true->nt.df)
  (k: ∀bc w' φ' ι',cL φ' ι' w' nt aV bc->Step φ ι w st.heap φ' ι' w' aV.heap->dA ι st.heap ι' aV.heap->Q .normal bc w'):(Code.region id ops draw).wpIn (ec nt.ro) 0 P Q a w:=by
 unfold KC at e;cases draw
 ·simp only[aL]at e;exact wpIn_region_list (y6 tab cE ops.toList st aV φ ι w a e s ax ia k)
 ·simp only[aA]at e;obtain ⟨⟨dC,ns⟩,ai,aq⟩:=DT.val_bind_some e;clear e;simp only at aq;cases ag:r5 (iR ops.toList) 0 ns&&uF 0 ops.toList
  ·simp[ag,DT.val]at aq
  ·simp only[ag,aA,DT.val,bs]at aq;subst aq;simp only[bB]at ag;obtain ⟨bh,bZ,da,c4⟩:=V9 (L:=st.heap.length+slotsOf*ops.size) ops.toList 0 _ dC [] ns ai rfl (fun k=>by simp) (by simp);have qM: ∀x y,x<y->y<ops.size->((iR ops.toList).getD y 0).testBit x=true\/DV ops (oO ns) x y:=by
    intro x y qU bf;have hlen:ns.length=ops.size:=by rw[bh];simp
    have z1:x<ns.length:=by omega
    have z8:y<ns.length:=by omega
    have ex:ns[x]? =some ns[x]:=List.getElem?_eq_getElem z1;have L8:ns[y]? =some ns[y]:=List.getElem?_eq_getElem z8;rcases Xy ns 0 ag.1 x y _ _ qU ex L8 with h |h
    ·left;simpa using h
    ·right;simp only[lB.apart,bB]at h;obtain ⟨⟨⟨⟨⟨⟨⟨aa,ad⟩,al⟩,aE⟩,aZ⟩,bt⟩,dn⟩,hX⟩:=h;have zj:oO ns x=ns[x].fp:=by simp[oO,ex]
     have zk:oO ns y=ns[y].fp:=by simp[oO,L8]
     refine ⟨fun asy asz arc ard=> ?_,?_,?_,?_,?_,?_⟩
     ·have nx:=da x asy _ (by simpa using arc) (by rw[Nat.zero_add];exact ex);have Ox:=da y asz _ (by simpa using ard) (by rw[Nat.zero_add];exact L8);rw[nx.1,Ox.2]at aa;rw[nx.1,Ox.1]at ad;rw[nx.2,Ox.1]at al;refine ⟨fun d ax=>⟨rF aa d (by simp[ax]),fun jE=> ?_⟩,fun d ax hu=> ?_⟩
      ·exact rF ad d (by simp[ax]) (by simp[jE])
      ·exact rF al d hu (by simp[ax])
     ·rw[zj,zk];exact rF bt
     ·rw[zj,zk];exact rF aE
     ·rw[zj,zk];exact rF aZ
     ·rw[zj,zk];intro o an gW;exact rF dn o gW an
     ·rw[zj,zk];intro o an gW;exact rF hX o gW an
   have bo:=alV st.heap (slotsOf*ops.size);have dy:bP φ ι {w with drawn:=w.drawn+1} (st.heap++List.replicate (slotsOf*ops.size) .hole):=
    s.heap.update (fun _=>False) (fun i _=>bo i) (fun _ _=>rfl) (fun i h=>by rw[bo];exact h) (fun _ h=>h.elim) (fun _ h=>h.elim) (fun _ _ _ _ _=>rfl) (fun _ _ _=>rfl) (fun _ _ _ h=>h.elim)
   have fv:Step φ ι w st.heap φ ι {w with drawn:=w.drawn+1} (st.heap++List.replicate (slotsOf*ops.size) .hole):=
    ⟨fun _ _ h=>h,fun _ _ _=>rfl,fun _ _ h=>.inl h,Nat.le_refl _,rfl,rfl,rfl,fun _ _ _=>rfl,fun b ⟨i,aa,ad⟩=>.inr ⟨i,by rw[<-bo];exact aa,ad⟩⟩
   have jP:cL φ ι {w with drawn:=w.drawn+1} nt ⟨st.regs,st.heap++List.replicate (slotsOf*ops.size) .hole⟩ a:=
    ⟨dy,fun d r az=>⟨ae.rel_mono (φ:=φ) (ι:=ι) (w:=w) (w':={w with drawn:=w.drawn+1}) (fun _ _ h=>h) (fun _ _ _=>rfl) r _ (fun _ _=>rfl) (s.regs d r az).1,fun i ab=>by simp only[bo];exact (s.regs d r az).2 i ab⟩,s.nt,s.small,s.defers.step fv⟩
   have arV:dA ι st.heap ι (st.heap++List.replicate (slotsOf*ops.size) .hole):=⟨fun _ _=>rfl,fun i h=>by rw[bo];exact h⟩;refine wpIn_region_any hm ?_;refine amA tab cE (base:=st.heap.length) (L:=st.heap.length+slotsOf*ops.size) (N:=oO ns) ax ag.2 qM (Nat.le_refl _) k ops.size _ (List.range' 0 ops.size) _ φ ι _ a (by simp) List.pairwise_lt_range' (by simp) (fun i=> ?_) (fun i aa ad=> ?_) (fun i ab cB aa ad=> ?_) (by simp) (by simpa using c4) jP fv arV
   ·simp only[List.mem_range'_1,Nat.zero_le,true_and,Nat.zero_add];constructor
    ·intro h;exact ⟨h,by simp[Array.getD_eq_getD_getElem?,h]⟩
    ·exact fun h=>h.1
   ·exact absurd (by simp[List.mem_range'_1];exact aa) ad
   ·rw[bo,nv (by omega)];rfl
def eb:Code->Bool
 | .seq a b=>eb a||eb b
 | .cond _ a b=>eb a||eb b
 | .block _ c=>eb c
 | .loop c=>eb c
 | .scope c=>eb c
 | .rangeFunc ..=>true
 |_=>false
def fe:Code->Bool
 | .region _ ops _=>ops.toList.any sv
 | .seq a b=>fe a||fe b
 | .cond _ a b=>fe a||fe b
 | .block _ c=>fe c
 | .loop c=>fe c
 | .scope c=>fe c
 |_=>false
structure hc (nt:hR) (c:Code):Prop where
 rf:eb c=true->nt.rf
 df:fe c=true->nt.df
theorem hc.of {nt:hR} {c c':Code} (h:hc nt c) (aa:eb c'=true->eb c=true) (ad:fe c'=true->fe c=true):hc nt c':=⟨fun x=>h.rf (aa x),fun x=>h.df (ad x)⟩
theorem hc.fn {n b:Nat} {c:Code} (h:fe c=false):hc ⟨n,b,[],none,false⟩ c:=⟨fun _=>⟨rfl,rfl⟩,fun x=>absurd (h.symm.trans x) (by simp)⟩
theorem hc.no {nt:hR} {c:Code} (aa:eb c=false) (ad:fe c=false):hc nt c:=⟨fun x=>absurd (aa.symm.trans x) (by simp),fun x=>absurd (ad.symm.trans x) (by simp)⟩
theorem hc.fnD {n b:Nat} {c:Code} (h:eb c=false):hc ⟨n,b,[],none,true⟩ c:=⟨fun x=>absurd (h.symm.trans x) (by simp),fun _=>⟨rfl,rfl,rfl⟩⟩
def fT [Env] (P:Program) (F:ba) (n:Nat) (k:Nat) (c:Code):Prop:=
 ∀(nt:hR) (st:bn) (e:dv) (aV:bn) (φ:bw) (ι:Nat->Value) (w:World) (a:Act) (Q:Exit->Act->World->Prop),nt.n=n->hc nt (.loop c)->(F.Λ k st).val=some (e,aV)->cL φ ι w nt st a->fA F.m st.heap->
  (∀bc w' φ' ι',cL φ' ι' w' nt aV bc->Step φ ι w st.heap φ' ι' w' aV.heap->gH F.m ι st.heap ι' aV.heap->Q (jt e) bc w')->(Code.loop c).wpIn (ec nt.ro) 0 P Q a w
theorem alP {ks:List Nat} {R:bD} {d:Nat} {r:ae} (h:(rO ks R).get d=some r):R.get d=some r:=by
 induction R with
 |nil=>simp[rO,bD.get]at h
 |cons p l aO=>
  obtain ⟨e,x⟩:=p;simp only[rO]at h;simp only[bD.get];cases av:has ks e
  ·simp only[av,aL]at h;cases ag:Nat.beq d e
   ·simpa using aO h
   ·have ai:d=e:=by simpa using ag
    subst ai;exfalso;have: ∀l:bD,(rO ks l).get d=none:=by
     intro l
     induction l with
     |nil=>rfl
     |cons p l aO=>
      obtain ⟨aq,mS⟩:=p;simp only[rO];cases jg:has ks aq
      ·simpa using aO
      ·simp only[aA,bD.get];cases dB:Nat.beq d aq
       ·simpa using aO
       ·have:d=aq:=by simpa using dB
        subst this;rw[av]at jg;cases jg
    rw[this]at h;cases h
  ·simp only[av,aA,bD.get]at h;cases ag:Nat.beq d e
   ·simp only[ag,aL]at h ⊢;exact aO h
   ·simp only[ag,aA]at h ⊢;exact h
theorem UJ [Env] {t:Nat->Value}: ∀(R R':bD) (φ:bw) (H:List aG) (n:Nat) (aC:List aG) (aI:Nat),(ya R).go H n=some (R',aC,aI)->bP φ ι w H->(∀q∈R,q.2.rel φ ι w (t q.1)/\ ∀i∈q.2.ids,(aF H i).live=true)->
  aI=n/\ ∃φ',ee φ ι w H φ' aC/\ ∀q∈R',q.2.rel φ' ι w (t q.1)/\ ∀i∈q.2.ids,(aF aC i).live=true
 |[],R',φ,H,n,aC,aI,e,h,aN=>by
  simp only[ya]at e;obtain ⟨rfl,rfl,rfl⟩:=go_ret e;exact ⟨rfl,φ,ee.refl h,by simp⟩
 |(d,r)::l,R',φ,H,n,aC,aI,e,h,aN=>by
  simp only[ya]at e;obtain ⟨ar,H1,cC,ai,e⟩:=HM.go_bind_some e;obtain ⟨dd,ef,dj,aq,e⟩:=HM.go_bind_some e;obtain ⟨rfl,rfl,rfl⟩:=go_ret e;obtain ⟨bX,apJ⟩:=aN (d,r) (by simp);obtain ⟨rfl,cU,g1,zS,vF⟩:=VS ai h bX apJ;obtain ⟨rfl,du,g2,vO⟩:=UJ l dd cU H1 _ _ _ aq g1.rel (fun q lU=>by
   obtain ⟨a1,k2⟩:=aN q (by simp[lU]);exact ⟨ae.rel_mono g1.step.phi g1.step.cells q.2 _ (fun _ _=>rfl) a1,fun i ab=>by rw[g1.live];exact k2 i ab⟩)
  refine ⟨rfl,du,g1.trans g2,fun q lU=> ?_⟩;rcases List.mem_cons.1 lU with rfl |lU
  ·exact ⟨ae.rel_mono g2.step.phi g2.step.cells ar _ (fun _ _=>rfl) zS,fun i ab=>by rw[g2.live];exact vF i ab⟩
  ·exact vO q lU
theorem bD.get_mem {R:bD} {d:Nat} {r:ae} (h:R.get d=some r):(d,r)∈R:=by
 induction R with
 |nil=>simp[bD.get]at h
 |cons p l aO=>
  obtain ⟨e,x⟩:=p;simp only[bD.get]at h;cases ag:Nat.beq d e
  ·simp only[ag,aL]at h;exact List.mem_cons_of_mem _ (aO h)
  ·simp only[ag,aA,bs]at h;have:d=e:=by simpa using ag
   subst this h;simp
theorem Bt {R:bD}: ∀(us:List Nat) (q:Nat×ae),q∈r8 R us->R.get q.1=some q.2/\q.1≠cZ
 |[],q,h=>by simp[r8]at h
 |d::us,q,h=>by
  simp only[r8]at h;cases ag:has us d||Nat.beq d cZ
  ·simp only[ag,aL]at h;split at h
   ·rename_i r az;rcases List.mem_cons.1 h with rfl |h
    ·exact ⟨az,fun e=>by
     have e:d=cZ:=e;simp only[Bool.or_eq_false_iff]at ag;rw[e,Nat.beq_refl cZ]at ag;cases ag.2⟩
    ·exact Bt us q h
   ·exact Bt us q h
  ·simp only[ag,aA]at h;exact Bt us q h
theorem WB {p:Int} {st aV:bn} {e:dv}: ∀(l:List dv),(yo l p st).val=some (e,aV)->p=l4 e/\aV=st
 |[],h=>by simp[yo,DT.val]at h
 |x::l,h=>by
  simp only[yo,DT.val]at h;cases ag:decide (p=l4 x)
  ·simp only[ag,aL]at h;exact WB l h
  ·simp only[ag,aA,bs,ct]at h;obtain ⟨rfl,rfl⟩:=h;exact ⟨of_decide_eq_true ag,rfl⟩
theorem DL {e f:dv} (h:l4 e=l4 f):e=f:=by
 cases e<;>cases f<;>simp only[l4]at h<;>first |rfl |omega |(congr 1;omega)
theorem am6 (e:dv):0<=l4 e:=by cases e<;>simp[l4];omega
theorem hE.putObj (w:World) (l:Nat) (o:Obj):hE w (w.putObj l o) l:=⟨rfl,rfl,rfl,by simp[World.putObj],fun k av=>World.putObj_heap_other av⟩
theorem adc {l eI:Nat} {a b c d:Array Value} (h:Value.func (.yield l) a b=Value.func (.yield eI) c d):l=eI:=by
 injection h with aa
 injection aa
theorem aff [Env] {H:List aG} (h:bP φ ι w H) {o b:Nat} {w':World} (an:(aF H o).owns=true) (ag:c1 (ι o)=some b) (g:hE w w' b) (iQ: ∀k,¬φ b k):
  bP φ ι w' (bL H o .gone)/\Step φ ι w H φ ι w' (bL H o .gone)/\dA ι H ι (bL H o .gone):=by
 have eH:(aF H o).live=true:=by cases cP:aF H o<;>rw[cP]at an<;>first |rfl |(cases an)
 have a8:=fl eH;have bo: ∀i,aF (bL H o .gone) i=if i=o then .gone else aF H i:=fun i=>fk H o _ i (Nat.le_of_lt a8)
 have ao: ∀i,(aF H i).live=true->(aF (bL H o .gone) i).live=true:=fun i h=>by rw[bo];split<;>first |rfl |exact h
 have Af: ∀c k,φ c k->w'.cell? ⟨c,k,none⟩=w.cell? ⟨c,k,none⟩:=fun c k aB=>g.cell (fun e=>iQ k (e▸aB))
 refine ⟨h.update (fun i=>i=o) (fun i dg=>by rw[bo,if_neg dg]) (fun _ _=>rfl) ao ?_ ?_ (fun i c dg hJ aB=>g.blocks c ?_) Af ?_,?_,⟨fun _ _=>rfl,ao⟩⟩
 ·rintro i rfl;rw[bo,if_pos rfl];trivial
 ·rintro i rfl j ay;rw[bo,if_pos rfl]at ay;simp[aG.ids]at ay
 ·rintro rfl;exact dg (h.apart i o c hJ an aB ag)
 ·rintro i j c rfl aa;rw[bo,if_pos rfl]at aa;cases aa
 ·refine ⟨fun _ _ h=>h,Af,fun _ _ h=>.inl h,by rw[g.size];exact Nat.le_refl _,g.os,g.tape,g.output,fun c aB aQ=>g.blocks c (fun e=>aQ ⟨o,an,e▸ag⟩),fun c aB=> ?_⟩;obtain ⟨i,aa,ad⟩:=aB;rw[bo]at aa;split at aa
  ·cases aa
  ·exact .inr ⟨i,aa,ad⟩
set_option maxHeartbeats 1000000 in
theorem apj [Env] {F:ba} (tab:cA P F.cx) (cE:bO P F.Γ) {Y:Nat} {g:Operand} {ps:Array Tmp} {x y:Code} {us L7:List Nat} {e:dv} {Q:Exit->Act->World->Prop} (vC:Env.code Y=some ⟨ps.toList,x,y,nt.n⟩)
  (Ng: ∀f∈F.its,∃fn,P.funcs[f]? =some fn/\(fn.name== "runtime.NumGoroutine")=false/\fn.body.isNone=false) (h:(LF F Y g us L7 st).val=some (e,aV)) (bY:nt.rf) (bV:cL φ ι w nt st a) (lm:fA F.m st.heap)
  (cB: ∀bc w' φ' ι',cL φ' ι' w' nt aV bc->Step φ ι w st.heap φ' ι' w' aV.heap->gH F.m ι st.heap ι' aV.heap->Q (jt e) bc w'):(Code.rangeFunc g ps x y).wpIn (ec nt.ro) 0 P Q a w:=by
 unfold LF at h;split at h
 ·rename_i f jY bH;cases aB:has F.its f&& !hP f&&(st.regs.get cZ).isNone
  ·simp[aB,DT.val]at h
  rw[aB,aA]at h;simp only[bB,Bool.not_eq_true']at aB;obtain ⟨⟨my,j3⟩,zr⟩:=aB;obtain ⟨Z9,M6,M7,zB⟩:=Ng f (yf.1 my);obtain ⟨⟨p,ad,dj,fp⟩,al,aE⟩:=DT.val_bind_some h;obtain ⟨Fb,fF⟩:=WB _ aE;subst fF;have aZ:=HM.go_run _ _ _ _ _ _ _ _ al;unfold Q6 at aZ;obtain ⟨hU,H1,cC,ai,aq⟩:=HM.go_bind_some aZ;have cH:=bV.eval g;rw[bH]at cH;obtain ⟨⟨xs,aT,aqF,z7,Ab⟩,aaM⟩:=cH;have z7:xs= #[]:=by cases xs;simpa [ae.relT] using z7
  subst z7;obtain ⟨rfl,cU,g1,aas⟩:=UJ (t:=fun d=>a.tmps.getD d undef) _ _ φ st.heap _ _ _ ai bV.heap (fun q aN=>by have:=bV.regs _ _ (Bt _ q aN).1;rwa [hk (Bt _ q aN).2]at this);simp only[HM.go]at aq;obtain ⟨rec,n2⟩: ∃rec:FuncId->LoopState->Option Code->Loop,rec=fun fn st asU=>{state:=st,pending:=asU,fn,tmps:=a.tmps,params:=ps,assign:=x,body:=y,defers:=w.heap.size}:=⟨_,rfl⟩
  refine wpIn_rangeFunc ?_;intro EN aaF;have arp:(ec nt.ro).round=none:=bY.1;rw[arp];obtain ⟨cY,fG⟩: ∃cY,(w.alloc (.deferred (some []))).alloc (.loop (rec EN .ready none))=cY:=⟨_,rfl⟩;have j6:cY.heap.size=w.heap.size+2:=by rw[<-fG];simp
  have apX:cY.heap[w.heap.size+1]? =some (.loop (rec EN .ready none)):=by
   rw[<-fG];have:=World.alloc_heap_new (w.alloc (.deferred (some []))) (.loop (rec EN .ready none));rwa [World.size_alloc]at this
  have apU:cY.heap[w.heap.size]? =some (.deferred (some [])):=by
   rw[<-fG];exact (Below.heap_alloc _ _ _ (by simp)).trans (World.alloc_heap_new w _)
  have Nb:gG w cY:=by
   rw[<-fG];exact ⟨rfl,rfl,rfl,by simp;omega,fun b ag=>(Below.heap_alloc _ _ _ (by simp;omega)).trans (Below.heap_alloc w _ b ag)⟩
  have gB:(aF H1 st.heap.length).live=false:=by rw[nv (by rw[g1.len];exact Nat.le_refl _)];rfl
  have Nn:st.heap.length<=H1.length:=by rw[g1.len];exact Nat.le_refl _
  have vE: ∀i,(aF H1 i).live=true->dw ι st.heap.length (.func (.yield (w.heap.size+1)) #[] #[]) i=ι i:=fun i ab=>by
   have:i≠st.heap.length:=by rintro rfl;rw[gB]at ab;cases ab
   simp[dw,this]
  obtain ⟨aeX,Qi,Qj,auL⟩:=ys (v:=.func (.yield (w.heap.size+1)) #[] #[]) (ob:=.loop Y hU 0) g1.rel Nn gB Nb
   ⟨w.heap.size+1,rec EN .ready none,_,by simp[dw],⟨vC,apX,by rw[n2],by rw[n2],by rw[n2],by rw[n2];exact bV.nt,.inl ⟨rfl,by rw[n2],by rw[n2]⟩,fun q aN=>by
    have:=aas q aN;rw[n2];exact ae.rel_mono (fun _ _ h=>h) (fun b k ag=>Nb.cell (jm g1.rel ag)) q.2 _ (fun i ab=>vE i (this.2 i ab)) this.1,fun k av=>by have:=jm g1.rel av;omega⟩⟩
   (fun i ab=>by obtain ⟨q,aa,ad⟩:=bD.ids_mem ab;exact (aas q aa).2 i ad) rfl (fun b ag=>by
    have:w.heap.size+1=b:=by simpa [c1] using ag
    omega)
  obtain ⟨u,ef,n3,bb,bx⟩:=HM.go_bind_some aq;have aaY:(aF (bL H1 st.heap.length (.loop Y hU 0)) st.heap.length).live=true:=by rw[fk H1 _ _ _ Nn,if_pos rfl];rfl
  have ds:hD (bL H1 st.heap.length (.loop Y hU 0)) (st.heap.length+1) n3:=by
   have:(bL H1 st.heap.length (.loop Y hU 0)).length=st.heap.length+1:=by
    have aa:=rk H1 (.loop Y hU 0)
    rwa [g1.len]at aa
   rw[<-this];exact KF _ _
  have zu:=(ie.call j3).1 (GJ (vs:= #[.func (.yield (w.heap.size+1)) #[] #[]]++aT) cE bb aeX (by
    rw[Array.toList_append];refine ⟨_,_,rfl,⟨by simp[dw],_,rfl⟩,?_⟩;refine ae.relT_mono (φ:=cU) (ι:=ι) (w:=w) (fun _ _ h=>h) (fun b k ag=>Nb.cell (jm g1.rel ag)) jY _ (fun i ab=>vE i (by rw[g1.live];exact aaM i (by simp[ae.ids,ab]))) ?_;exact ae.relT_mono g1.step.phi g1.step.cells jY _ (fun _ _=>rfl) Ab) (fun i ab=>by
    simp only[ae.idsL,ae.ids,List.mem_append,List.mem_singleton]at ab;rcases ab with rfl |ab
    ·exact aaY
    ·exact Qj.live i (by rw[g1.live];exact aaM i (by simp[ae.ids,ab]))) ds)
  have aaA:(callFunc f (#[.func (.yield (w.heap.size+1)) #[] #[]]++aT)).run P cY=.ok (.enter f (#[.func (.yield (w.heap.size+1)) #[] #[]]++aT)) cY:=by
   unfold callFunc;have zC: ¬Z9.name= "runtime.NumGoroutine":=by simpa using M7
   have M8: ¬Z9.body=none:=by
    intro bX;rw[bX]at zB;cases zB
   simp[M6,zC,M8]
  have aqg:=zu.resolve_right (fun ⟨v,w',aa,_⟩=>by rw[aaA]at aa;injection aa with aa _;cases aa);refine ⟨w.heap.size+1,[u2 w.heap.size],cY,{target:=.fn (.func f) aT,args:= #[.func (.yield (w.heap.size+1)) #[] #[]]},cY,f,#[.func (.yield (w.heap.size+1)) #[] #[]]++aT,cY,?_,?_,fun _ _=>trivial,?_,(fun h=>by cases h),?_⟩
  ·rw[<-fG,n2];exact run_enterLoop_outer _ _ _ _ _
  ·simp only[resolve,aqF];simp[go_sem]
  ·simp only[invoke];exact aaA
  refine JQ nt.ro ?_;refine Calls.mono aqg.2 fun Z3 w'=> ?_
  rintro ⟨v,φ',ι',rfl,a7,aY,c3,fb,c5,o0⟩;simp only[HM.go]at bx;split at bx
  ·rename_i mi uj hB cP;simp only[HM.go]at bx;obtain ⟨rfl,rfl,rfl⟩:=go_ret bx;have aa2:=a7.obj st.heap.length;rw[cP]at aa2;obtain ⟨cM,nz,ZS,eL,gT⟩:=aa2;have eY:ι' st.heap.length=.func (.yield (w.heap.size+1)) #[] #[]:=by
    rw[c3.iota _ aaY];simp[dw]
   have gM:cM=w.heap.size+1:=adc (eL.symm.trans eY);subst gM;have fF:nz.state≠ .busy/\(match e with | .nrm=>nz.pending=none |e=>nz.pending=some (L6 e)):=by
    rcases gT.st with ⟨bh,bZ,da⟩|⟨bh,bZ⟩|⟨dx,bh,bZ,da,c4⟩
    ·have:e=.nrm:=DL (Fb.symm.trans bh);subst this;exact ⟨by rw[bZ];simp,da⟩
    ·have:=am6 e;omega
    ·have:e=dx:=DL (Fb.symm.trans bh);subst this;refine ⟨by rw[da];simp,?_⟩;cases e with
     |nrm=>exact absurd rfl bZ
     |ret=>exact c4
     |exit i=>exact c4
   have zz:=run_endLoop (P:=P) gT.heap fF.1;obtain ⟨jo,NW⟩: ∃jo,w'.putObj (w.heap.size+1) (.loop {nz with state:=.exhausted})=jo:=⟨_,rfl⟩;rw[NW]at zz;have abj:hE w' jo (w.heap.size+1):=by rw[<-NW];exact hE.putObj _ _ _
   have h9:c1 (ι' st.heap.length)=some (w.heap.size+1):=by rw[eY];rfl
   obtain ⟨aeS,Qf,aeT⟩:=aff a7 (o:=st.heap.length) (by rw[cP];rfl) h9 abj gT.phi;have ae0:Step φ ι w st.heap cU ι w H1:=g1.step;have xw:=((ae0.trans Qi).trans aY).trans Qf;have Hc:=((g1.keep.trans Qj).trans c3).trans aeT;have aaZ: ¬ig (dw ι st.heap.length (.func (.yield (w.heap.size+1)) #[] #[])) (bL H1 st.heap.length (.loop Y hU 0)) w.heap.size:=by
    intro h;rcases Qi.own _ h with aa |aa
    ·obtain ⟨o,bh,bZ⟩:=h;rw[fk H1 _ _ _ Nn]at bh;split at bh
     ·rename_i an;subst an;have da:some (w.heap.size+1)=some w.heap.size:=by
       rw[<-bZ];simp[dw,c1]
      have:=Option.some.inj da;omega
     ·rename_i an;have ft:(aF H1 o).live=true:=by cases cP:aF H1 o<;>rw[cP]at bh<;>first |rfl |(cases bh)
      rw[vE o ft]at bZ;have:=tR g1.rel bh bZ;omega
    ·obtain ⟨o,bh,bZ⟩:=aa;have:=tR g1.rel bh bZ;omega
   have apV:w'.heap[w.heap.size]? =some (.deferred (some [])):=(aY.blocks _ (by omega) aaZ).trans apU;have apW:jo.heap[w.heap.size]? =some (.deferred (some [])):=(abj.blocks _ (by omega)).trans apV;have aq6: ¬ig ι' (bL ef st.heap.length .gone) w.heap.size:=by
    intro h;have a1:=aY.size;rcases (aY.trans Qf).own _ h with aa |aa
    ·omega
    ·exact aaZ aa
   have b0:=bV.defers.1;obtain ⟨ms,c2,cr,ey⟩:=bV.defers.2 bY.2;have hmarks:Marks nt jo (ig ι' (bL ef st.heap.length .gone)) ([u2 w.heap.size]++a.defers):=by
    have b1:=(bV.defers.step xw).1;refine ⟨b1,fun _=>⟨w.heap.size::ms,by simp[c2],?_,fun r az=> ?_⟩⟩
    ·rw[List.nodup_cons];refine ⟨fun hm=> ?_,cr⟩;have:=(Array.getElem?_eq_some_iff.1 (ey _ hm).2.1).1;omega
    ·rcases List.mem_cons.1 az with rfl |az
     ·exact ⟨b0,apW,aq6⟩
     ·obtain ⟨a1,k2,b5⟩:=ey r az;have a8:=(Array.getElem?_eq_some_iff.1 k2).1;exact ⟨a1,(xw.blocks r a8 b5).trans k2,fun h=>(xw.own r h).elim (fun aE=>by omega) b5⟩
   have ae1:cL φ' ι' jo nt ⟨st.regs,bL ef st.heap.length .gone⟩ {a with defers:=[u2 w.heap.size]++a.defers}:=
    ⟨aeS,fun d r ax=>by
     have cf:d≠cZ:=fun e=>by rw[e]at ax;rw[ax]at zr;cases zr
     have bX:=bV.regs d r ax;rw[hk cf]at bX ⊢;exact ⟨ae.rel_step xw Hc bX.2 bX.1,fun i ab=>Hc.live i (bX.2 i ab)⟩,bV.nt,bV.small,hmarks⟩
   have fin:=cB _ jo φ' ι' ae1 xw (Hc.keepM _);refine ⟨nz.pending,jo,zz,?_⟩;have vQ:=fF.2;cases e with
   |nrm=>simp only at vQ;rw[vQ];exact fin
   |ret=>simp only at vQ;rw[vQ];exact wpIn_ret fin
   |exit i=>simp only at vQ;rw[vQ];exact wpIn_exit fin
  ·simp[HM.go]at bx
 ·simp[DT.val]at h
theorem J6 {R:bD}: ∀(us:List Nat) (l:List ae),uW R us=some l-> ∀i∈ae.idsL l,∃d r,R.get d=some r/\i∈r.ids
 |[],l,h,i,ab=>by
  simp only[uW,bs]at h;subst h;simp[ae.idsL]at ab
 |d::us,l,h,i,ab=>by
  simp only[uW]at h;split at h
  ·rename_i r az;obtain ⟨m,hm,rfl⟩:=Option.map_eq_some_iff.1 h;simp only[ae.idsL,List.mem_append]at ab;rcases ab with ab |ab
   ·exact ⟨d,r,az,ab⟩
   ·exact J6 us m hm i ab
  ·cases h
theorem amj [Env] {F:ba} {id:Nat} (e:(LC F id st).val=some aV) (bV:cL φ ι w nt st a):cL φ ι w nt aV a/\aV.heap=st.heap:=by
 unfold LC at e;split at e
 ·simp only[DT.val,bs]at e;subst e;exact ⟨bV,rfl⟩
 ·split at e
  ·rename_i f us vs t e6 _ _ _ A B bH dO cG;simp only[DT.val,bs]at e;subst e;refine ⟨⟨bV.heap,fun d r ax=> ?_,bV.nt,bV.small,bV.defers⟩,rfl⟩;have ax:(st.regs.put cZ (.dfr f A B t [])).get d=some r:=ax;rw[bD.get_put]at ax;by_cases kC:d=cZ
   ·subst kC;simp only[if_true,bs]at ax;subst ax;obtain ⟨⟨xs,aX,aw⟩,-⟩:=bV.regs cZ _ bH;simp only[ae.relT]at aw;rw[oR]at aX ⊢;have z1:xs= #[]:=by cases xs;simpa using aw
    subst z1;refine ⟨⟨[],aX,rfl,fun i x u aw=>by simp at aw⟩,fun i ab=> ?_⟩;simp only[ae.ids,List.mem_append]at ab;rcases ab with ab |ab
    ·obtain ⟨d,r,a1,k2⟩:=J6 _ _ dO i ab;exact (bV.regs d r a1).2 i k2
    ·obtain ⟨d,r,a1,k2⟩:=J6 _ _ cG i ab;exact (bV.regs d r a1).2 i k2
   ·simp only[kC,if_false]at ax;exact bV.regs d r ax
  ·simp[DT.val]at e
def h8 [Env] (P:Program) (F:ba) (n:Nat):Code->Prop
 | .seq a b=>h8 P F n a/\h8 P F n b
 | .cond _ a b=>h8 P F n a/\h8 P F n b
 | .block _ c=>h8 P F n c
 | .scope c=>h8 P F n c
 | .rangeFunc g ps a b=>(∀Y,F.rfs (Gc a b)=some Y->Env.code Y=some ⟨ps.toList,a,b,n⟩)/\ ∀f∈F.its,∃fn,P.funcs[f]? =some fn/\(fn.name== "runtime.NumGoroutine")=false/\fn.body.isNone=false
 |_=>True
theorem dW [Env] {P:Program} {F:ba} {n:Nat}: ∀(c:Code),eb c=false->h8 P F n c
 | .seq a b,h=>by simp only[eb,Bool.or_eq_false_iff]at h;exact ⟨dW a h.1,dW b h.2⟩
 | .cond _ a b,h=>by simp only[eb,Bool.or_eq_false_iff]at h;exact ⟨dW a h.1,dW b h.2⟩
 | .block _ c,h=>dW c (by simpa [eb] using h)
 | .scope c,h=>dW c (by simpa [eb] using h)
 | .rangeFunc ..,h=>by simp[eb]at h
 | .loop _,_=>trivial
 | .skip,_=>trivial | .region ..,_=>trivial | .exit _,_=>trivial | .label _,_=>trivial | .goto _,_=>trivial | .ret,_=>trivial | .refuse _,_=>trivial
theorem l0 [Env] {F:ba} (tab:cA P F.cx) (cE:bO P F.Γ) (hm:P.follows .mixedOrders=true): ∀(c:Code) (k:Nat) (st:bn) (e:dv) (aV:bn) (φ:bw) (ι:Nat->Value) (w:World) (a:Act) (Q:Exit->Act->World->Prop),(e0 F c k st).val=some (e,aV)->
  (∀q∈dF c k,fT P F nt.n q.1 q.2)->fS nt.n c=true->h8 P F nt.n c->hc nt c->cL φ ι w nt st a->fA F.m st.heap->
  (∀bc w' φ' ι',cL φ' ι' w' nt aV bc->Step φ ι w st.heap φ' ι' w' aV.heap->gH F.m ι st.heap ι' aV.heap->Q (jt e) bc w')->c.wpIn (ec nt.ro) 0 P Q a w:=by
 intro c
 induction c with
 |skip=>
  intro k st e aV φ ι w a Q h ao aB cv bY bV lm cB;simp only[e0,DT.val,bs,ct]at h;obtain ⟨rfl,rfl⟩:=h;exact wpIn_skip (cB a w φ ι bV (Step.refl _ _ _ _) (gH.refl _ _ _))
 |region id ops draw=>
  intro k st e aV φ ι w a Q h ao aB cv bY bV lm cB;simp only[e0]at h;obtain ⟨b6,aa,ad⟩:=DT.val_bind_some h;refine alu tab cE hm aa bV aB (fun h=>bY.df h) fun bc w' φ' ι' cp sp bE=> ?_
  split at ad
  ·rename_i ks aaU;simp only[DT.val,bs,ct]at ad;obtain ⟨rfl,rfl⟩:=ad;exact cB bc w' φ' ι' ⟨cp.heap,fun d r ax=>cp.regs d r (alP ax),cp.nt,cp.small,cp.defers⟩ sp (bE.keepM _)
  ·obtain ⟨dC,al,aE⟩:=DT.val_bind_some ad;simp only[DT.val,bs,ct]at aE;obtain ⟨rfl,rfl⟩:=aE;obtain ⟨bh,bZ⟩:=amj al cp;exact cB bc w' φ' ι' bh (by rw[bZ];exact sp) (by rw[bZ];exact bE.keepM _)
 |seq x y hM hN=>
  intro k st e aV φ ι w a Q h ao aB cv bY bV lm cB;simp only[e0]at h;obtain ⟨⟨ai,b6⟩,aa,ad⟩:=DT.val_bind_some h;simp only[fS,bB]at aB;refine wpIn_seq (hM k st ai b6 φ ι w a _ aa (fun q aN=>ao q (by simp[dF,aN])) aB.1 cv.1 (bY.of (fun h=>by simp[eb,h]) (fun h=>by simp[fe,h])) bV lm fun bc w' φ' ι' cp sp bE=> ?_);cases ai with
  |nrm=>
   exact hN k b6 e aV φ' ι' w' bc Q ad (fun q aN=>ao q (by simp[dF,aN])) aB.2 cv.2 (bY.of (fun h=>by simp[eb,h]) (fun h=>by simp[fe,h])) cp (bE.live lm) fun a2 c0 du dz iC nA ll=>cB a2 c0 du dz iC (sp.trans nA) (bE.trans ll)
  |exit i=>
   simp only[DT.val,bs,ct]at ad;obtain ⟨rfl,rfl⟩:=ad;exact cB bc w' φ' ι' cp sp bE
  |ret=>
   simp only[DT.val,bs,ct]at ad;obtain ⟨rfl,rfl⟩:=ad;exact cB bc w' φ' ι' cp sp bE
 |cond c x y hM hN=>
  intro k st e aV φ ι w a Q h ao aB cv bY bV lm cB;simp only[e0]at h;simp only[fS,bB]at aB;split at h
  ·rename_i t aU;have aX:=JC aU (bV.eval c).1;refine wpIn_cond aX ?_;have key: ∀(fv:bn),cL φ ι w nt fv a->fv.heap=st.heap->(bif t then (e0 F x k fv).val else (e0 F y k fv).val)=some (e,aV)->(if t then x else y).wpIn (ec nt.ro) 0 P Q a w:=by
    intro fv ic bC h;rw[<-bC]at lm cB;cases t
    ·simp only[aL]at h;simp only[Bool.false_eq_true,if_false];exact hN k fv e aV φ ι w a Q h (fun q aN=>ao q (by simp[dF,aN])) aB.2 cv.2 (bY.of (fun h=>by simp[eb,h]) (fun h=>by simp[fe,h])) ic lm cB
    ·simp only[aA]at h;simp only[if_true];exact hM k fv e aV φ ι w a Q h (fun q aN=>ao q (by simp[dF,aN])) aB.1 cv.1 (bY.of (fun h=>by simp[eb,h]) (fun h=>by simp[fe,h])) ic lm cB
   split at h
   ·rename_i d;have bo:st.regs.get d=some (.dat .bool t):=by
     simp only[gy]at aU;cases pc:Nat.beq d cZ with
     |true=>simp[pc,kL]at aU
     |false=>
     simp only[pc,aL]at aU;cases ax:st.regs.get d with
     |none=>rw[ax]at aU;simp[kL]at aU
     |some r=>
      rw[ax]at aU;have:=BO (R:=st.regs) (d:=d) (b:=t) (by rw[ax];exact aU);rw[ax]at this;exact this
    have ic:cL φ ι w nt ⟨refine st.regs d t,st.heap⟩ a:=bV.regs_eq (rl bo);refine key ⟨refine st.regs d t,st.heap⟩ ic rfl ?_;cases t
    ·simp only[DT.val,aL]at h ⊢;exact h
    ·simp only[DT.val,aA]at h ⊢;exact h
   ·exact key st bV rfl (by simpa only[DT.val] using h)
  ·simp[DT.val]at h
 |block id c aO=>
  intro k st e aV φ ι w a Q h ao aB cv bY bV lm cB;simp only[e0]at h;obtain ⟨⟨ai,b6⟩,aa,ad⟩:=DT.val_bind_some h;refine wpIn_block (aO id st ai b6 φ ι w a _ aa (fun q aN=>ao q (by simpa [dF] using aN)) aB cv (bY.of (fun h=>by simpa [eb] using h) (fun h=>by simpa [fe] using h)) bV lm fun bc w' φ' ι' cp sp bE=> ?_);cases ai with
  |nrm=>
   simp only[DT.val,bs,ct]at ad;obtain ⟨rfl,rfl⟩:=ad;exact cB bc w' φ' ι' cp sp bE
  |exit i=>
   simp only at ad;cases ag:Nat.beq i id
   ·simp only[ag,aL,DT.val,bs,ct]at ad;obtain ⟨rfl,rfl⟩:=ad;have cf: ¬i=id:=fun h=>by subst h;simp at ag
    simp only[jt,Exit.inBlock,if_neg cf];exact cB bc w' φ' ι' cp sp bE
   ·simp only[ag,aA,DT.val,bs,ct]at ad;obtain ⟨rfl,rfl⟩:=ad;have:i=id:=by simpa using ag
    simp only[jt,Exit.inBlock,if_pos this];exact cB bc w' φ' ι' cp sp bE
  |ret=>
   simp only[DT.val,bs,ct]at ad;obtain ⟨rfl,rfl⟩:=ad;exact cB bc w' φ' ι' cp sp bE
 |scope c aO=>
  intro k st e aV φ ι w a Q h ao aB cv bY bV lm cB;simp only[e0]at h;refine W6 (aO k st e aV φ ι w a _ h (fun q aN=>ao q (by simpa [dF] using aN)) aB cv (bY.of (fun h=>by simpa [eb] using h) (fun h=>by simpa [fe] using h)) bV lm fun bc w' φ' ι' cp sp bE=> ?_);have:=cB bc w' φ' ι' cp sp bE;cases e<;>exact this
 |label l=>
  intro k st e aV φ ι w a Q h ao aB cv bY bV lm cB;simp only[e0,DT.val,bs,ct]at h;obtain ⟨rfl,rfl⟩:=h;exact wpIn_label (cB a w φ ι bV (Step.refl _ _ _ _) (gH.refl _ _ _))
 |loop c aO=>
  intro k st e aV φ ι w a Q h ao aB cv bY bV lm cB;simp only[e0]at h;exact ao (k,c) (by simp[dF]) nt st e aV φ ι w a Q rfl bY h bV lm cB
 |exit id=>
  intro k st e aV φ ι w a Q h ao aB cv bY bV lm cB;simp only[e0,DT.val,bs,ct]at h;obtain ⟨rfl,rfl⟩:=h;exact wpIn_exit (cB a w φ ι bV (Step.refl _ _ _ _) (gH.refl _ _ _))
 |ret=>
  intro k st e aV φ ι w a Q h ao aB cv bY bV lm cB;simp only[e0,DT.val,bs,ct]at h;obtain ⟨rfl,rfl⟩:=h;exact wpIn_ret (cB a w φ ι bV (Step.refl _ _ _ _) (gH.refl _ _ _))
 |rangeFunc g ps x y=>
  intro k st e aV φ ι w a Q h ao aB cv bY bV lm cB;simp only[e0]at h;split at h
  ·rename_i Y MS;exact apj tab cE (cv.1 Y MS) cv.2 h (bY.rf rfl) bV lm cB
  ·simp[DT.val]at h
 |_=>
  intro k st e aV φ ι w a Q h;simp[e0,DT.val]at h
def bA.fin (L:bA):L.Out->dv×bn
 | .inl x=>(L.x,L.X.enc x)| .inr y=>(L.y,L.Y.enc y)
theorem dv.is_eq {e f:dv} (h:e.is f=true):e=f:=by
 cases e<;>cases f<;>simp only[dv.is,reduceCtorEq]at h<;>first |rfl |(have:=Nat.eq_of_beq_eq_true h;subst this;rfl)|cases h
theorem bA.out_sound [Env] {L:bA} {m:Nat} {e:dv} {st:bn} {o:L.Out} (h:(L.out m e st).val=some o) (bV:cL φ ι w nt st a) (lm:fA m st.heap):
  e=(L.fin o).1/\ ∃φ' ι',cL φ' ι' w nt (L.fin o).2 a/\Step φ ι w st.heap φ' ι' w (L.fin o).2.heap/\gH m ι st.heap ι' (L.fin o).2.heap:=by
 unfold bA.out at h;cases aa:e.is L.x
 ·simp only[aa,aL]at h;cases ad:e.is L.y
  ·simp[ad,DT.val]at h
  ·simp only[ad,aA]at h;obtain ⟨y,ai,aq⟩:=DT.val_bind_some h;simp only[DT.val,bs]at aq;subst aq;obtain ⟨φ',ι',a1,k2,b5,-,-⟩:=j1 ai bV lm;exact ⟨dv.is_eq ad,φ',ι',a1,k2,b5⟩
 ·simp only[aa,aA]at h;obtain ⟨x,ai,aq⟩:=DT.val_bind_some h;simp only[DT.val,bs]at aq;subst aq;obtain ⟨φ',ι',a1,k2,b5,-,-⟩:=j1 ai bV lm;exact ⟨dv.is_eq aa,φ',ι',a1,k2,b5⟩
theorem XK {e:dv} {next:Act->World->Prop} {Q:Exit->Act->World->Prop} {a:Act} {w:World} (he:e≠ .nrm):Exit.then next Q (jt e) a w=Q (jt e) a w:=by
 cases e<;>first |rfl |exact absurd rfl he
theorem amX [Env] {F:ba} (tab:cA P F.cx) (cE:bO P F.Γ) (hm:P.follows .mixedOrders=true) {L:bA} {c:Code} {k:Nat} {n:Nat} {f:L.S.ty.den->Option L.Out} (lY:F.Λ k=L.go f F.m) (dq: ∀q∈dF c k,fT P F n q.1 q.2) (aB:fS n c=true) (cv:h8 P F n c)
  (aJ: ∀s o,f s=some o-> ∃n,dR (fun s=>(L.body F c k s).val) n s=some o):fT P F n k c:=by
 intro nt st e aV φ ι w a Q aQ bY h bV lm cB;subst aQ;rw[lY]at h;unfold bA.go at h;obtain ⟨s,ai,aq⟩:=DT.val_bind_some h;obtain ⟨cU,ep,a1,k2,b5,dD,fZ⟩:=j1 ai bV lm;obtain ⟨o,an,he⟩: ∃o,f s=some o/\(e,aV)=L.fin o:=by
  cases iv:f s with
  |none=>simp[iv,DT.val]at aq
  |some o=>
   refine ⟨o,rfl,?_⟩;cases o with
   |inl x=>simp only[iv,DT.val,bs]at aq;exact aq.symm
   |inr y=>simp only[iv,DT.val,bs]at aq;exact aq.symm
 obtain ⟨n,aQ⟩:=aJ s o an;refine wpIn_loop_rounds n ?_;have key: ∀n s φ ι w a,dR (fun s=>(L.body F c k s).val) n s=some o->cL φ ι w nt (L.S.enc s) a->fA F.m (L.S.enc s).heap->
   (∀bc w' φ' ι',cL φ' ι' w' nt (L.fin o).2 bc->Step φ ι w (L.S.enc s).heap φ' ι' w' (L.fin o).2.heap->gH F.m ι (L.S.enc s).heap ι' (L.fin o).2.heap->Q (jt (L.fin o).1) bc w')->Code.roundsIn (ec nt.ro) 0 P c Q n a w:=by
  intro n
  induction n with
  |zero=>intro s φ ι w a h;cases h
  |succ n aO=>
   intro s φ ι w a h bV lm cB;simp only[dR]at h;rw[roundsIn_succ];cases ag:(L.body F c k s).val with
   |none=>simp[ag]at h
   |some r=>
    simp only[ag]at h;have gA:=ag;unfold bA.body at gA;obtain ⟨⟨ai,b6⟩,aa,ad⟩:=DT.val_bind_some gA;refine l0 tab cE hm c k _ ai b6 φ ι w a _ aa dq aB cv (bY.of (fun h=>h) (fun h=>h)) bV lm fun bc w' φ' ι' cp sp bE=> ?_
    by_cases ld:ai=.nrm
    ·subst ld;obtain ⟨t,al,aE⟩:=DT.val_bind_some ad;simp only[DT.val,bs]at aE;subst aE;simp only at h;obtain ⟨du,dz,c2,cr,ey,ka,oa⟩:=j1 al cp (bE.live lm);exact aO t du dz w' bc h c2 (ey.live (bE.live lm)) fun a2 c0 kU kT A0 OO Oh=>cB a2 c0 kU kT A0 ((sp.trans cr).trans OO) ((bE.trans ey).trans Oh)
    ·rw[XK ld];have aZ:((L.out F.m ai b6).bind fun o=>DT.leaf (Sum.inr (α:=L.S.ty.den) o)).val=some r:=by
      cases ai with
      |nrm=>exact absurd rfl ld
      |exit i=>exact ad
      |ret=>exact ad
     obtain ⟨h4,al,aE⟩:=DT.val_bind_some aZ;simp only[DT.val,bs]at aE;subst aE;simp only[bs]at h;subst h;obtain ⟨kD,du,dz,c2,cr,ey⟩:=bA.out_sound al cp (bE.live lm);rw[kD];exact cB bc w' du dz c2 (sp.trans cr) (bE.trans ey)
 have qO:e=(L.fin o).1/\aV=(L.fin o).2:=by rw[<-he];exact ⟨rfl,rfl⟩
 refine key n s cU ep w a aQ a1 (b5.live lm) fun bc w' φ' ι' cp sp bE=> ?_
 have:=cB bc w' φ' ι';rw[qO.1,qO.2]at this;exact this cp (k2.trans sp) (b5.trans bE)
end
open Go.RowKit
section
variable {P:Program} {cx:bS} {φ:bw} {ι:Nat->Value} {w:World} {H:List aG} {n:Nat} {aC:List aG} {aI:Nat}
theorem wd {n base:Nat} {ro:Option Nat} {nm:Bool} {w:World} {Own:Nat->Prop} (h:base<=w.heap.size):Marks ⟨n,base,[],ro,nm⟩ w Own []:=⟨h,fun _=>⟨[],rfl,List.nodup_nil,by simp⟩⟩
theorem uS {f:FuncId} {fn:Func} {c:Code} {args:Array Value} {w:World} {R:Ending->World->Prop} (aJ:P.funcs[f]? =some fn) (ag:fn.body=some c)
  (h:c.wpIn (ec none) 0 P (bodyPostM (ec none) 0 P fn R) {tmps:=args++Array.replicate (fn.ntmps-args.size) undef,defers:=[]} w):Calls P f args w R:=
 (callsIn_wide (n:=0)).1 (callsIn_of_wp_marks aJ ag trivial h rfl)
structure D6 [Env] (φ:bw) (ι:Nat->Value) (w:World) (st:bn) (a:Act):Prop where
 heap:bP φ ι w st.heap
 regs: ∀d r,d≠cZ->st.regs.get d=some r->r.rel φ ι w (a.tmps.getD d undef)/\ ∀i∈r.ids,(aF st.heap i).live=true
theorem cL.rr [Env] {nt:hR} {st:bn} {a:Act} (s:cL φ ι w nt st a):D6 φ ι w st a:=⟨s.heap,fun d r cf h=>by have:=s.regs d r h;rwa [hk cf]at this⟩
theorem BA [Env] {fn:Func} {e:dv} {R:Ending->World->Prop} {n:Nat} {φ':bw} {ι':Nat->Value} {w':World} {b6:bn} {bc:Act} (he:e=.nrm\/e=.ret) (bV:cL φ' ι' w' ⟨n,w.heap.size,[],none,false⟩ b6 bc) (sp:Step φ ι w H φ' ι' w' b6.heap)
  (K: ∀c0,D6 φ' ι' c0 b6 bc->Step φ ι w H φ' ι' c0 b6.heap-> ∃v,(results fn bc.tmps).run P c0=.ok v c0/\R (.returned v) c0):bodyPostM (ec none) 0 P fn R (jt e) bc w':=by
 have key: ∀(ms:List Nat) (w':World),D6 φ' ι' w' b6 bc->Step φ ι w H φ' ι' w' b6.heap->ms.Nodup->(∀r∈ms,w.heap.size<=r/\w'.heap[r]? =some (.deferred (some []))/\ ¬ig ι' b6.heap r)->
   LeavesInM (ec none) 0 P fn bc.tmps R (ms.map u2) .returning w':=by
  intro ms
  induction ms with
  |nil=>intro w' bV sp _ _;exact K w' bV sp
  |cons r ms aO=>
   intro w' bV sp aQ az;obtain ⟨a1,k2,b5⟩:=az r (by simp);refine ⟨by simp,.inl ⟨r,w'.putObj r (.deferred none),rfl,run_takeDeferred k2,aO _ ?_ ?_ (List.nodup_cons.1 aQ).2 fun s au=> ?_⟩⟩
   ·have cf: ∀b k,φ' b k->b≠r:=by
     rintro b k ag rfl;obtain ⟨v,aX⟩:=bV.heap.phi b k ag;simp[World.cell?,k2]at aX
    have eX: ∀b k,φ' b k->(w'.putObj r (.deferred none)).cell? ⟨b,k,none⟩=w'.cell? ⟨b,k,none⟩:=fun b k ag=>(hE.putObj w' r _).cell (cf b k ag)
    refine ⟨bV.heap.update (fun _=>False) (fun _ _=>rfl) (fun _ _=>rfl) (fun _ h=>h) (fun _ h=>h.elim) (fun _ h=>h.elim) (fun i b _ an ag=>World.putObj_heap_other (fun e=>b5 ⟨i,an,e▸ag⟩)) eX (fun _ _ _ h=>h.elim),fun d x cf ax=> ?_⟩;exact ⟨ae.rel_mono (fun _ _ h=>h) eX x _ (fun _ _=>rfl) (bV.regs d x cf ax).1,(bV.regs d x cf ax).2⟩
   ·have cf: ∀b k,φ' b k->b≠r:=by
     rintro b k ag rfl;obtain ⟨v,aX⟩:=bV.heap.phi b k ag;simp[World.cell?,k2]at aX
    exact ⟨sp.phi,fun b k ag=>((hE.putObj w' r _).cell (cf b k (sp.phi b k ag))).trans (sp.cells b k ag),sp.newphi,by simpa [World.putObj] using sp.size,sp.os,sp.tape,sp.output,fun b ag an=>(World.putObj_heap_other (by omega)).trans (sp.blocks b ag an),sp.own⟩
   ·obtain ⟨bh,bZ,da⟩:=az s (by simp[au]);have NM:s≠r:=by rintro rfl;exact (List.nodup_cons.1 aQ).1 au
    exact ⟨bh,(World.putObj_heap_other NM).trans bZ,da⟩
 have b0:=bV.defers.1;obtain ⟨ms,c2,cr,ey⟩:=bV.defers.2 rfl;have c2:bc.defers=ms.map u2:=by simpa using c2
 have bX:LeavesInM (ec none) 0 P fn bc.tmps R bc.defers .returning w':=by
  rw[c2];exact key ms w' bV.rr sp cr ey
 rcases he with rfl |rfl
 ·exact bX
 ·exact bX
def uX (a:Act):ResultVar->Sem Value
 | .tmp t=>pure (a.tmps.getD t undef)
 | .cell c t=>do loadVar t (<-asAddr (a.tmps.getD c undef))
theorem tv [Env] (tab:cA P cx) {R:bD} {a:Act}: ∀(l:List ResultVar) (j:Nat) (R':bD) (H:List aG) (n:Nat) (aC:List aG) (aI:Nat),(kf cx R j l).go H n=some (R',aC,aI)->bP φ ι w H->(∀d r,d≠cZ->R.get d=some r->r.rel φ ι w (a.tmps.getD d undef)/\ ∀i∈r.ids,(aF H i).live=true)->
  aC=H/\aI=n/\ ∃vs:List Value,(l.mapM (uX a)).run P w=.ok vs w/\vs.length=l.length/\R'.map (·.1)=List.range' j l.length/\
   ∀(i:Nat) (x:Nat×ae),R'[i]? =some x-> ∃v,vs[i]? =some v/\x.2.rel φ ι w v/\ ∀k∈x.2.ids,(aF H k).live=true
 |[],j,R',H,n,aC,aI,e,h,az=>by
  simp only[kf]at e;obtain ⟨rfl,rfl,rfl⟩:=go_ret e;exact ⟨rfl,rfl,[],by simp,rfl,rfl,fun i x aw=>by simp at aw⟩
 |v::l,j,R',H,n,aC,aI,e,h,az=>by
  simp only[kf]at e;obtain ⟨r,H1,cC,ai,aq⟩:=HM.go_bind_some e;obtain ⟨eI,ef,dj,bb,bx⟩:=HM.go_bind_some aq;obtain ⟨rfl,rfl,rfl⟩:=go_ret bx;have NF: ∀t,(gy R (.tmp t)).rel φ ι w (a.tmps.getD t undef)/\ ∀i∈(gy R (.tmp t)).ids,(aF H i).live=true:=by
   intro t;simp only[gy];cases ag:Nat.beq t cZ with
   |true=>exact ⟨trivial,by simp[ae.ids]⟩
   |false=>
    simp only[aL];cases aU:R.get t with
    |none=>exact ⟨trivial,by simp[ae.ids]⟩
    |some x=>exact az t x (fun e=>by subst e;simp at ag) aU
  have q:H1=H/\cC=n/\ ∃u,(uX a v).run P w=.ok u w/\r.rel φ ι w u/\ ∀i∈r.ids,(aF H i).live=true:=by
   cases v with
   |tmp t=>
    obtain ⟨rfl,rfl,rfl⟩:=go_ret ai;exact ⟨rfl,rfl,_,by simp[uX],(NF t).1,(NF t).2⟩
   |cell c t=>
    obtain ⟨bh,bZ,u,-,da,c4,fh⟩:=Wg tab ai h (NF c).1;exact ⟨bh,bZ,u,da,c4,fh⟩
  obtain ⟨bh,bZ,u,hu,NK,aqY⟩:=q;subst bh bZ;obtain ⟨bh,bZ,us,kI,hlen,E2,fq⟩:=tv tab l (j+1) eI H1 cC _ _ bb h az;refine ⟨bh,bZ,u::us,?_,by simp[hlen],by simp[E2,List.range'_succ],fun i x aw=> ?_⟩
  ·rw[List.mapM_cons];simp only[Sem.run_bind,hu,Result.andThen_ok,kI,Sem.run_pure]
  ·cases i with
   |zero=>
    obtain rfl:(j,r)=x:=by simpa using aw
    exact ⟨u,rfl,NK,aqY⟩
   |succ i=>
    obtain ⟨v,aa,ad⟩:=fq i x (by simpa using aw);exact ⟨v,by simpa using aa,ad⟩
theorem tw {fn:Func} {a:Act} {vs:List Value} (h:(fn.results.toList.mapM (uX a)).run P w=.ok vs w):(results fn a.tmps).run P w=.ok (if h:vs.toArray.size=1 then vs.toArray[0] else .tuple vs.toArray) w:=by
 have hm:(fn.results.mapM (uX a)).run P w=.ok vs.toArray w:=by
  rw[Array.mapM_eq_mapM_toList];rw[<-bind_pure_comp];simp only[Sem.run_bind,h,Result.andThen_ok,Sem.run_pure]
 have he:results fn a.tmps=(do let vs<-fn.results.mapM (uX a);pure (if h:vs.size=1 then vs[0] else .tuple vs)):=rfl;rw[he];simp only[Sem.run_bind,hm,Result.andThen_ok,Sem.run_pure]
theorem Yp: ∀(R:bD) (i k:Nat) (x:Nat×ae),R.map (·.1)=List.range' i R.length->R[k]? =some x->x.1=i+k/\R.get (i+k)=some x.2
 |[],i,k,x,av,aw=>by simp at aw
 |(d,r)::R,i,k,x,av,aw=>by
  simp only[List.map_cons,List.length_cons,List.range'_succ,List.cons.injEq]at av;obtain ⟨rfl,av⟩:=av;cases k with
  |zero=>
   obtain rfl:(d,r)=x:=by simpa using aw
   refine ⟨rfl,?_⟩;simp[bD.get]
  |succ k=>
   have aO:=Yp R (d+1) k x av (by simpa using aw);refine ⟨by omega,?_⟩;have:Nat.beq (d+(k+1)) d=false:=uR (by omega);simp only[bD.get,this,aL];rw[show d+(k+1)=d+1+k by omega];exact aO.2
theorem ln: ∀(R:bD) (i d:Nat) (r:ae),R.map (·.1)=List.range' i R.length->R.get d=some r-> ∃k,d=i+k/\R[k]? =some (d,r)
 |[],i,d,r,av,aw=>by simp[bD.get]at aw
 |(e,x)::R,i,d,r,av,aw=>by
  simp only[List.map_cons,List.length_cons,List.range'_succ,List.cons.injEq]at av;obtain ⟨rfl,av⟩:=av;simp only[bD.get]at aw;cases ag:Nat.beq d e
  ·simp only[ag,aL]at aw;obtain ⟨k,aa,ad⟩:=ln R (e+1) d r av aw;exact ⟨k+1,by omega,by simpa using ad⟩
  ·simp only[ag,aA,bs]at aw;have:d=e:=by simpa using ag
   subst this aw;exact ⟨0,rfl,rfl⟩
theorem uy {R:bD} {a:Act} (av:R.map (·.1)=List.range' 0 R.length) (au:R.length<=cZ) (h: ∀d r,R.get d=some r->r.rel φ ι w (lu a d)/\ ∀i∈r.ids,(aF H i).live=true):k0 φ ι w H R (fun d=>a.tmps.getD d undef):=fun d r ax=>by
 obtain ⟨k,aa,ad⟩:=ln R 0 d r av ax;have a8:=(List.getElem?_eq_some_iff.1 ad).1;have:=h d r ax
 rwa [hk (by omega)]at this
theorem WS: ∀(l:List ae) (vs:List Value),l.length=vs.length->(∀(i:Nat) x v,l[i]? =some x->vs[i]? =some v->x.rel φ ι w v)->ae.relT φ ι w l vs
 |[],[],_,_=>rfl
 |[],_::_,h,_=>by simp at h
 |_::_,[],h,_=>by simp at h
 |x::l,v::vs,h,k=>⟨v,vs,rfl,k 0 x v rfl rfl,WS l vs (by simpa using h) fun i y u aa ad=>k (i+1) y u (by simpa using aa) (by simpa using ad)⟩
theorem afI {l:List ae} {v:Value} (h: ∃vs,v=.tuple vs/\ae.relT φ ι w l vs.toList):(ae.tup l).rel φ ι w v:=h
theorem Yl: ∀(l:List ae) (p:Nat->Prop),(∀x∈l,∀i∈x.ids,p i)-> ∀i∈ae.idsL l,p i
 |[],p,_,i,ab=>by simp[ae.idsL]at ab
 |x::l,p,h,i,ab=>by
  simp only[ae.idsL,List.mem_append]at ab;rcases ab with ab |ab
  ·exact h x (by simp) i ab
  ·exact Yl l p (fun y bf=>h y (by simp[bf])) i ab
theorem sb {R:bD} {vs:Array Value} (av:R.map (·.1)=List.range' 0 R.length) (hlen:R.length=vs.size) (az:k0 φ ι w H R (fun d=>vs.getD d undef)):
  (iE R).rel φ ι w (if h:vs.size=1 then vs[0] else .tuple vs)/\ ∀i∈(iE R).ids,(aF H i).live=true:=by
 have fq: ∀(i:Nat) x,R[i]? =some x->R.get i=some x.2:=fun i x aw=>by
  have:=(Yp R 0 i x av aw).2;simpa using this
 unfold iE;split
 ·rename_i d r;have aa:vs.size=1:=by simpa using hlen.symm
  have ad:r.rel φ ι w (vs.getD 0 undef)/\ ∀i∈r.ids,(aF H i).live=true:=az 0 r (fq 0 (d,r) rfl);rw[dif_pos aa];have:vs.getD 0 undef=vs[0]:=by simp[Array.getD_eq_getD_getElem?,aa]
  rw[this]at ad;exact ad
 ·rename_i cf;have aa: ¬vs.size=1:=by
   intro h;rw[h]at hlen
   match R,hlen with
   |[(d,r)],_=>exact cf d r rfl
  rw[dif_neg aa];refine ⟨afI ⟨vs,rfl,WS _ _ (by simp[hlen]) fun i x v aw aX=> ?_⟩,?_⟩
  ·simp only[List.getElem?_map,Option.map_eq_some_iff]at aw;obtain ⟨y,bf,rfl⟩:=aw;have ad:y.2.rel φ ι w (vs.getD i undef):=(az i y.2 (fq i y bf)).1;have:vs.getD i undef=v:=by
    have ed:vs[i]? =some v:=by simpa using aX
    simp[Array.getD_eq_getD_getElem?,ed]
   rwa [this]at ad
  ·simp only[ae.ids];refine Yl _ (fun i=>(aF H i).live=true) fun x aw=> ?_
   obtain ⟨y,bf,rfl⟩:=List.mem_map.1 aw;obtain ⟨i,ab⟩:=List.mem_iff_getElem?.1 bf;exact (az i y.2 (fq i y ab)).2
theorem mx: ∀(l:List ae) (i:Nat),(eV i l).map (·.1)=List.range' i l.length/\(eV i l).length=l.length/\ ∀(k:Nat) (x:Nat×ae),(eV i l)[k]? =some x->l[k]? =some x.2
 |[],i=>⟨rfl,rfl,fun k x h=>by simp[eV]at h⟩
 |r::l,i=>by
  obtain ⟨aa,ad,al⟩:=mx l (i+1);refine ⟨by simp[eV,aa,List.range'_succ],by simp[eV,ad],fun k x h=> ?_⟩;cases k with
  |zero=>
   obtain rfl:(i,r)=x:=by simpa [eV] using h
   rfl
  |succ k=>simpa using al k x (by simpa [eV] using h)
theorem tq: ∀(s:List (Nat×b4)) (l rest:List dN) (R:bD),ov s l=some (R,rest)->R.map (·.1)=s.map (·.1)
 |[],l,rest,R,h=>by
  simp only[ov,bs,ct]at h;obtain ⟨rfl,-⟩:=h;rfl
 |(d,s)::kO,l,rest,R,h=>by
  simp only[ov]at h;split at h
  ·rename_i x eI aw;obtain ⟨p,aP,ad⟩:=Option.map_eq_some_iff.1 h;simp only[ct]at ad;obtain ⟨rfl,rfl⟩:=ad;simp[tq kO eI p.2 p.1 aP]
  ·cases h
def lH (fn:Func) (S Z:Shape):Bool:=
 (match fn.body with |some c=>fS fn.ntmps c&& !fe c&&Nat.ble fn.ntmps cZ&&Nat.ble fn.results.size cZ |none=>false)&& !(fn.name== "runtime.NumGoroutine")&&Nat.ble S.regs.length fn.ntmps&&decide (Z.regs.map (·.1)=List.range' 0 fn.results.size)
theorem wU: ∀(s:List (Nat×b4)) (R:bD) (l:List dN),hA s R=some l->R.length=s.length
 |[],[],_,_=>rfl
 |[],_::_,_,h=>by simp[hA]at h
 |_::_,[],_,h=>by simp[hA]at h
 |(d,s)::kO,(e,r)::R,l,h=>by
  simp only[hA]at h;cases ag:Nat.beq d e
  ·simp[ag]at h
  ·simp only[ag,aA]at h;split at h
   ·rename_i a aR;obtain ⟨b,ag,-⟩:=Option.map_eq_some_iff.1 h;simp[wU kO R b ag]
   ·cases h
theorem an3 [Env] {F:ba} (tab:cA P F.cx) (cE:bO P F.Γ) (hm:P.follows .mixedOrders=true) {f:FuncId} {fn:Func} {c:Code} {S Z:Shape} (aJ:P.funcs[f]? =some fn) (ag:fn.body=some c) (cJ:lH fn S Z=true) (dq: ∀q∈dF c 0,fT P F fn.ntmps q.1 q.2) (cv:h8 P F fn.ntmps c)
  {args:List ae} (ej:F.m=S.objs.length) {s:S.ty.den} {z:Z.ty.den} (au:S.dec ⟨eV 0 args,H⟩=some s) (e:(k5 F fn S Z s).val=some z):iG P f args H (iE (Z.enc z).regs) (Z.enc z).heap:=by
 have fE:=Shape.dec_enc au;simp only[lH,ag,bB,Bool.not_eq_true',db]at cJ;obtain ⟨⟨⟨⟨⟨⟨mB,ia⟩,gC⟩,gO⟩,lQ⟩,lR⟩,lS⟩:=cJ;have gC:=Nat.le_of_ble_eq_true gC;have gO:=Nat.le_of_ble_eq_true gO;have hi:args.length=S.regs.length/\H.length=S.objs.length:=by
  unfold Shape.dec at au;simp only at au;cases aR:hA S.regs (eV 0 args) with
  |none=>simp[aR]at au
  |some x=>
   cases ag:eW S.objs H with
   |none=>simp[aR,ag]at au
   |some y=>
    refine ⟨by rw[<-wU _ _ _ aR,(mx args 0).2.1],?_⟩;have: ∀(s:List dm) (R:List aG) (l:List dN),eW s R=some l->R.length=s.length:=by
     intro s
     induction s with
     |nil=>intro R l h;cases R<;>simp[eW]at h ⊢
     |cons a s aO=>
      intro R l h;cases R with
      |nil=>simp[eW]at h
      |cons b R=>
       simp only[eW]at h;split at h
       ·obtain ⟨b,ag,-⟩:=Option.map_eq_some_iff.1 h;simp[aO R b ag]
       ·cases h
    exact this _ _ _ ag
 unfold k5 at e;rw[ag]at e;simp only[Option.getD_some]at e;obtain ⟨⟨ai,b6⟩,aa,ad⟩:=DT.val_bind_some e;have al:ai=.nrm\/ai=.ret:=by
  cases ai with
  |nrm=>exact .inl rfl
  |ret=>exact .inr rfl
  |exit i=>simp[DT.val]at ad
 have aE:(((kf F.cx b6.regs 0 fn.results.toList).run b6.heap b6.heap.length .none).bind fun (R,h,_,_)=>Z.take F.m ⟨R,h⟩).val=some z:=by
  rcases al with rfl |rfl<;>exact ad
 obtain ⟨⟨R,aZ,kK,rh⟩,bt,dn⟩:=DT.val_bind_some aE;have jd:=HM.go_run _ _ _ _ _ _ _ _ bt;have jh:(Z.enc z).regs.map (·.1)=List.range' 0 fn.results.size:=by
  obtain ⟨⟨aV,bC,wC,pp⟩,a1,k2⟩:=DT.val_bind_some dn;simp only[DT.val_ofOpt]at k2;have b5:(Z.enc z).regs.map (·.1)=Z.regs.map (·.1):=by
   unfold Shape.dec at k2;cases aR:hA Z.regs aV.regs with
   |none=>simp[aR]at k2
   |some x=>
    cases ag:eW Z.objs aV.heap with
    |none=>simp[aR,ag]at k2
    |some y=>
     have:=pG _ _ x [] aR;rw[Shape.dec_enc (st:=aV) (by simp only[Shape.dec,aR,ag]at k2 ⊢;exact k2)];exact tq _ _ _ _ this
  rw[b5,lS]
 refine ⟨⟨fn,aJ,lQ,by rw[ag];rfl⟩,?_⟩
 ·intro φ ι w vs dy ei eG eu;refine uS aJ ag ?_;have dL:vs.size=args.length:=by
   have: ∀(l:List ae) (vs:List Value),ae.relT φ ι w l vs->vs.length=l.length:=by
    intro l
    induction l with
    |nil=>intro vs h;simp only[ae.relT]at h;simp[h]
    |cons r l aO=>intro vs h;obtain ⟨v,m,rfl,-,h⟩:=h;simp[aO m h]
   simpa using this _ _ eG
  have dh:vs.size<=fn.ntmps:=by
   rw[dL,hi.1];exact Nat.le_of_ble_eq_true lR
  have jP:cL φ ι w ⟨fn.ntmps,w.heap.size,[],none,false⟩ (S.enc s) {tmps:=vs++Array.replicate (fn.ntmps-vs.size) undef,defers:=[]}:=by
   rw[fE];refine ⟨dy,fun d r ax=> ?_,by simp;omega,gC,wd (Nat.le_refl _)⟩;obtain ⟨a1,k2,b5⟩:=mx args 0;obtain ⟨k,av,gl⟩:=ln _ 0 d r (by rw[a1,k2]) ax;have fD:d=k:=by omega
   subst fD;have bo:=b5 d (d,r) gl;simp only at bo;obtain ⟨v,aX,hL⟩:=rP eG bo;have ed:vs[d]? =some v:=by simpa using aX
   have j4:d<vs.size:=(Array.getElem?_eq_some_iff.1 ed).1;have:(vs++Array.replicate (fn.ntmps-vs.size) undef).getD d undef=v:=by
    rw[Array.getD_eq_getD_getElem?,Array.getElem?_append_left j4,ed];rfl
   rw[hk (by omega),this];exact ⟨hL,fun i ab=>eu i (rM bo i ab)⟩
  have nj:(S.enc s).heap=H:=by rw[fE]
  have h2:fA F.m (S.enc s).heap:=by
   rw[nj,ej,<-hi.2];exact fun o an=>ei o an
  refine l0 tab cE hm c 0 _ ai b6 φ ι w _ _ aa dq mB cv (hc.fn ia) jP h2 fun bc w' φ' ι' cp sp bE=> ?_
  rw[nj]at sp;refine BA al cp sp fun w' cp sp=> ?_
  have jL:=bE.live h2;obtain ⟨bh,bZ,us,da,c4,fh,gq⟩:=tv tab fn.results.toList 0 R b6.heap _ aZ kK jd cp.heap cp.regs;have kz:R.length=us.length:=by
   have:=congrArg List.length fh;simpa [c4] using this
  have iC:cL φ' ι' w' ⟨us.toArray.size,0,[],none,false⟩ ⟨R,aZ⟩ {tmps:=us.toArray,defers:=[]}:=by
   rw[bh];refine ⟨cp.heap,fun d r ax=> ?_,rfl,by rw[List.size_toArray,c4];simpa using gO,wd (Nat.zero_le _)⟩;obtain ⟨k,av,gl⟩:=ln R 0 d r (by rw[fh];congr 1;omega) ax;have fD:d=k:=by omega
   subst fD;obtain ⟨v,aX,hL,ft⟩:=gq d (d,r) gl;have:us.toArray.getD d undef=v:=by simp[Array.getD_eq_getD_getElem?,aX]
   have j4:d<us.length:=(List.getElem?_eq_some_iff.1 aX).1;have NC:fn.results.toList.length=fn.results.size:=by simp
   rw[hk (by omega)];simp only[this];exact ⟨hL,ft⟩
  obtain ⟨du,dz,c2,cr,ey,ka,oa⟩:=j1 dn iC (by rw[bh];exact jL);have gj:(Z.enc z).regs.length=us.toArray.size:=by
   have:=congrArg List.length jh;simp only[List.length_map,List.length_range']at this;rw[this];simp[c4]
  obtain ⟨ar,aM⟩:=sb (vs:=us.toArray) (R:=(Z.enc z).regs) (by rw[jh];congr 1;simpa [c4] using gj.symm) gj (uy (a:={tmps:=us.toArray,defers:=[]}) (by rw[jh];congr 1;simpa [c4] using gj.symm) (by rw[gj,List.size_toArray,c4];simpa using gO) c2.regs);have kH:=tw da;refine ⟨_,kH,_,du,dz,rfl,c2.heap,?_,?_,ar,aM⟩
  ·rw[bh]at cr;exact sp.trans cr
  ·rw[nj]at bE;rw[bh]at ey;have hn:=bE.trans ey;refine ⟨fun o an=> ?_,fun o an=> ?_⟩
   ·have a8:o<F.m:=by rw[ej,<-hi.2];exact fl an
    exact (hn o a8 an).1
   ·have a8:o<F.m:=by rw[ej,<-hi.2];exact fl an
    exact (hn o a8 an).2
end
open Go.RowKit
def ck [Env] (P:Program) (E:aS):Prop:= ∀args H s z,E.S.dec ⟨eV 0 args,H⟩=some s->E.g s=some z->iG P E.f args H (iE (E.Z.enc z).regs) (E.Z.enc z).heap
def oX [Env] (P:Program) (E:aS):Prop:= ∀args H s z,E.S.dec ⟨eV 0 args,H⟩=some s->E.g s=some z->tX P E.f args H (iE (E.Z.enc z).regs) (E.Z.enc z).heap
theorem ck.x [Env] {P:Program} {E:aS} (h:ck P E) (aJ:hP E.f=false):oX P E:=fun args H s z aa ad=>(h args H s z aa ad).x aJ
theorem Wh [Env] {P:Program}: ∀(l:List aS),(∀E∈l,oX P E)->bO P (gi l)
 |[],_,f,args,H,r,aC,e=>by simp[gi,DT.val]at e
 |E::l,ao,f,args,H,r,aC,e=>by
  have aO:=Wh l fun E hY=>ao E (by simp[hY])
  simp only[gi]at e;cases ag:Nat.beq f E.f
  ·simp only[ag,aL]at e;exact aO f args H r aC e
  ·have aJ:f=E.f:=by simpa using ag
   simp only[ag,aA]at e;split at e
   ·rename_i s au;unfold aS.run at e;cases bH:E.g s with
    |none=>simp[bH,DT.val]at e
    |some z=>
     simp only[bH,DT.val,bs,ct]at e;obtain ⟨rfl,rfl⟩:=e;rw[aJ];exact ao E (by simp) args H s z au bH
   ·exact aO f args H r aC e
theorem ang [Env] {P:Program} {F:ba} (tab:cA P F.cx) (cE:bO P F.Γ) (hm:P.follows .mixedOrders=true) {E:aS} {fn:Func} {c:Code} (aJ:P.funcs[E.f]? =some fn) (ag:fn.body=some c) (cJ:lH fn E.S E.Z=true) (dq: ∀q∈dF c 0,fT P F fn.ntmps q.1 q.2) (cv:h8 P F fn.ntmps c)
  (ej:F.m=E.S.objs.length) (bH: ∀s z,E.g s=some z->(k5 F fn E.S E.Z s).val=some z):ck P E:=
 fun args H s z au bz=>an3 tab cE hm aJ ag cJ dq cv ej au (bH s z bz)
def m4:(t:aD)->t.den->List Value->Bool
 | .bool,x,cs=>match cs with |[.bool b]=>b==x |_=>false
 | .int k,x,cs=>match cs with |[.int j n]=>decide (j=k)&&decide (n=x)|_=>false
 | .str,x,cs=>match cs with |[.string s]=>decide (s.data.toList=x)|_=>false
 | .opq,_,_=>false
 | .unit,_,cs=>match cs with |[]=>true |_=>false
 | .list _,x,cs=>match x,cs with |[],[.slice _ 0 _]=>true |_,_=>false
 | .pair a b,x,cs=>m4 a x.1 (cs.take a.size)&&m4 b x.2 (cs.drop a.size)
theorem CI {φ:bw} {w:World}: ∀(t:aD) (x:t.den) (cs:List Value),m4 t x cs=true->bg φ w t x cs
 | .bool,x,cs,h=>by
  unfold m4 at h;split at h
  ·rename_i b;obtain rfl:b=x:=by simpa using h
   rfl
  ·cases h
 | .int k,x,cs,h=>by
  unfold m4 at h;split at h
  ·rename_i j n;simp only[bB,db]at h;obtain ⟨aa,ad⟩:=h;obtain rfl:n=x:=ad;subst aa;rfl
  ·cases h
 | .str,x,cs,h=>by
  unfold m4 at h;split at h
  ·rename_i s;obtain rfl:s.data.toList=x:=of_decide_eq_true h;show [Value.string s]=[Value.string ⟨⟨s.data.toList⟩⟩];congr 1
  ·cases h
 | .opq,_,_,h=>by cases h
 | .unit,_,cs,h=>by
  unfold m4 at h;split at h
  ·rfl
  ·cases h
 | .list t,x,cs,h=>by
  have key: ∀(x:List t.den),x=[]-> ∀A c,bg φ w (.list t) x [.slice A 0 c]:=fun x aw A c=>by subst aw;exact ⟨A,0,c,rfl,rfl,Nat.zero_le _,.inl rfl⟩
  unfold m4 at h;split at h
  ·rename_i aw bf;exact key _ rfl _ _
  ·cases h
 | .pair a b,x,cs,h=>by
  simp only[m4,bB]at h;exact ⟨cs.take a.size,cs.drop a.size,(List.take_append_drop _ _).symm,CI a _ _ h.1,CI b _ _ h.2⟩
def ae.cells0:ae->Nat
 | .agg l=>go l
 | .dat t _=>t.size
 |_=>1
where
 go:List ae->Nat
  |[]=>0
  |r::l=>r.cells0+go l
def Zi:ae->Bool
 | .agg _=>true | .dat t _=>t.isAgg |_=>false
mutual
def hl:ae->Value->Bool
 | .dat t x,v=>m4 t x v.cells.toList&&(iy v==t.isAgg)
 | .nils _ _,v=>match v with | .slice none 0 0=>true |_=>false
 | .nilI,v=>match v with | .nilIface=>true |_=>false
 | .nilF,v=>match v with | .nilFunc=>true |_=>false
 | .agg l,v=>match v with | .agg cs=>uP l cs.toList |_=>false
 |_,_=>false
def uP:List ae->List Value->Bool
 |[],cs=>match cs with |[]=>true |_=>false
 |r::l,cs=>(bif Zi r then hl r (.agg (cs.take r.cells0).toArray)&&uP l (cs.drop r.cells0) else match cs with |v::cs=>hl r v&& !iy v&&uP l cs |[]=>false)
end
mutual
theorem GZ {φ:bw} {ι:Nat->Value} {w:World}: ∀(r:ae) (v:Value),hl r v=true->r.rel φ ι w v/\r.ids=[]
 | .dat t x,v,h=>by
  simp only[hl,bB,beq_iff_eq]at h;exact ⟨gz ⟨CI t x _ h.1,h.2⟩,rfl⟩
 | .nils e t,v,h=>by
  unfold hl at h;split at h
  ·exact ⟨rfl,rfl⟩
  ·cases h
 | .agg l,v,h=>by
  unfold hl at h;split at h
  ·rename_i cs;obtain ⟨aa,ad⟩:=It l cs.toList h;exact ⟨DN ⟨cs,rfl,aa⟩,ad⟩
  ·cases h
 | .undef,_,h=>by simp[hl]at h
 | .clip ..,_,h=>by simp[hl]at h
 | .nilv,_,h=>by simp[hl]at h
 | .own ..,_,h=>by simp[hl]at h
 | .view ..,_,h=>by simp[hl]at h
 | .ptr ..,_,h=>by simp[hl]at h
 | .fptr ..,_,h=>by simp[hl]at h
 | .tup ..,_,h=>by simp[hl]at h
 | .fn ..,_,h=>by simp[hl]at h
 | .iface ..,_,h=>by simp[hl]at h
 | .nilI,v,h=>by
  unfold hl at h;split at h
  ·exact ⟨rfl,rfl⟩
  ·cases h
 | .nilF,v,h=>by
  unfold hl at h;split at h
  ·exact ⟨rfl,rfl⟩
  ·cases h
 | .nilP,_,h=>by simp[hl]at h
 | .atl _,_,h=>by simp[hl]at h
 | .lim ..,_,h=>by simp[hl]at h
 | .yld ..,_,h=>by simp[hl]at h
 | .gp ..,_,h=>by simp[hl]at h
 | .dfr ..,_,h=>by simp[hl]at h
theorem It {φ:bw} {ι:Nat->Value} {w:World}: ∀(l:List ae) (cs:List Value),uP l cs=true->ae.relL φ ι w l cs/\ae.idsL l=[]
 |[],cs,h=>by
  unfold uP at h;split at h
  ·exact ⟨rfl,rfl⟩
  ·cases h
 |r::l,cs,h=>by
  unfold uP at h;cases aR:Zi r
  ·simp only[aR,aL]at h;split at h
   ·rename_i v ZT;simp only[bB,Bool.not_eq_true']at h;obtain ⟨aa,ad⟩:=GZ (φ:=φ) (ι:=ι) (w:=w) r v h.1.1;obtain ⟨al,aE⟩:=It (φ:=φ) (ι:=ι) (w:=w) l ZT h.2;exact ⟨⟨v,ZT,by rw[pE h.1.2];rfl,aa,al⟩,by simp[ae.idsL,ad,aE]⟩
   ·cases h
  ·simp only[aR,aA,bB]at h;obtain ⟨aa,ad⟩:=GZ (φ:=φ) (ι:=ι) (w:=w) r _ h.1;obtain ⟨al,aE⟩:=It (φ:=φ) (ι:=ι) (w:=w) l _ h.2;exact ⟨⟨_,_,(List.take_append_drop _ _).symm,aa,al⟩,by simp[ae.idsL,ad,aE]⟩
end
def DU (P:Program) (cx:bS) (T:TypeId) (i:e4):Bool:=match P.info? T with
 |some info=>Nat.beq info.size i.ty.size&&(match cx.zeroRV 20 T with
  |some r=>(match info.zero with
   |some z=>Nat.beq z.cells.size i.ty.size&&(iy z==i.ty.isAgg)&&r.fits i.ty&&hl r z
   |none=>false)
  |none=>true)
 |none=>false
def Dm (cx:bS) (ty:aD) (f:Nat) (U:TypeId) (off:Nat):Bool:=Nat.beq off (ty.offs f)&&(match cx.ti U with
 |some j=>decide (ty.nth f=some j.ty)&&Nat.blt 0 j.ty.size
 |none=>false)
def x0 (cx:bS) (ty:aD) (fs:Array Field):Nat->List TypeId->Bool
 |_,[]=>true
 |f,U::l=>(match fs[f]? with
  |some fd=>Nat.beq fd.type U&&Dm cx ty f U fd.offset
  |none=>false)&&x0 cx ty fs (f+1) l
def yb (cx:bS) (ty:aD) (e:TypeId) (size:Nat):Nat->List TypeId->Bool
 |_,[]=>true
 |f,U::l=>Nat.beq U e&&Dm cx ty f U (f*size)&&yb cx ty e size (f+1) l
def K8 (P:Program) (e:TypeId) (t:aD) (bytes:Nat):Bool:=match P.info? e with
 |some cW=>Nat.beq cW.size t.size&&Nat.beq cW.bytes bytes&&Nat.blt 0 bytes&&Nat.blt 0 t.size&&(match cW.zero with
  |some z=>Nat.beq z.cells.toList.length t.size&&m4 t t.zero z.cells.toList
  |none=>false)
 |none=>false
def DE (P:Program) (cx:bS) (T:TypeId) (i:e4):Bool:=match i.ty with
 | .bool=>match P.underlying T with |some .bool=>true |_=>false
 | .int k=>match P.underlying T with |some (.int j)=>decide (j=k)|_=>false
 | .str=>match P.underlying T with |some .string=>true |_=>false
 | .list t=>(match P.underlying T with |some (.slice e)=>Nat.beq e i.elem |_=>false)&&K8 P i.elem t i.bytes&&(match cx.ti i.elem with
  |some u=>decide (u.ty=t)
  |none=>false)
 | .opq=>match P.underlying T with
  |some (.array _ _)=>false
  |some (.struct _)=>false
  |some _=>true
  |none=>false
 |ty=>bif i.arr then (match P.underlying T with
   |some (.array n e)=>Nat.beq i.fields.length n&&(match P.info? e with
    |some cW=>yb cx ty e cW.size 0 i.fields
    |none=>false)
   |_=>false)
  else (match P.underlying T with
   |some (.struct fs)=>Nat.beq fs.size i.fields.length&&x0 cx ty fs 0 i.fields
   |_=>false)
section
variable {P:Program} {cx:bS} {T:TypeId} {i:e4}
theorem Wf (h:DU P cx T i=true): ∃info,P.info? T=some info/\info.size=i.ty.size/\ ∀r,cx.zeroRV 20 T=some r-> ∃z,info.zero=some z/\z.cells.size=i.ty.size/\iy z=i.ty.isAgg/\r.fits i.ty=true/\r.ids=[]/\ ∀φ ι w,r.rel φ ι w z:=by
 unfold DU at h;split at h
 ·rename_i info zF;simp only[bB,Nat.beq_eq]at h;refine ⟨info,zF,h.1,fun r az=> ?_⟩;have ad:=h.2;rw[az]at ad;simp only at ad;split at ad
  ·rename_i z bz;simp only[bB,Nat.beq_eq,beq_iff_eq]at ad;exact ⟨z,bz,ad.1.1.1,ad.1.1.2,ad.1.2,(GZ (φ:=fun _ _=>False) (ι:=fun _=>undef) (w:=default) r z ad.2).2,fun φ ι w=>(GZ r z ad.2).1⟩
  ·cases ad
 ·cases h
theorem T4 {ty:aD} {f:Nat} {U:TypeId} {off:Nat} (h:Dm cx ty f U off=true):l7 P cx ty f U off:=by
 unfold Dm at h;simp only[bB,Nat.beq_eq]at h;obtain ⟨aa,ad⟩:=h;split at ad
 ·rename_i j ay;simp only[bB,db]at ad;exact ⟨aa,j,ay,ad.1,by simpa using ad.2⟩
 ·cases ad
theorem T5 {ty:aD} {fs:Array Field}: ∀(l:List TypeId) (k:Nat),x0 cx ty fs k l=true-> ∀(f:Nat) U,l[f]? =some U-> ∃fd,fs[k+f]? =some fd/\fd.type=U/\l7 P cx ty (k+f) U fd.offset
 |[],k,h,f,U,hH=>by simp at hH
 |V::l,k,h,f,U,hH=>by
  simp only[x0,bB]at h;cases f with
  |zero=>
   obtain rfl:V=U:=by simpa using hH
   have aa:=h.1;split at aa
   ·rename_i fd lf;simp only[bB,Nat.beq_eq]at aa;exact ⟨fd,lf,aa.1,T4 aa.2⟩
   ·cases aa
  |succ f=>
   have:=T5 l (k+1) h.2 f U (by simpa using hH)
   rwa [show k+1+f=k+(f+1) by omega]at this
theorem UM {ty:aD} {e:TypeId} {size:Nat}: ∀(l:List TypeId) (k:Nat),yb cx ty e size k l=true-> ∀(f:Nat) U,l[f]? =some U->U=e/\l7 P cx ty (k+f) U ((k+f)*size)
 |[],k,h,f,U,hH=>by simp at hH
 |V::l,k,h,f,U,hH=>by
  simp only[yb,bB,Nat.beq_eq]at h;cases f with
  |zero=>
   obtain rfl:V=U:=by simpa using hH
   exact ⟨h.1.1,T4 h.1.2⟩
  |succ f=>
   have:=UM l (k+1) h.2 f U (by simpa using hH)
   rwa [show k+1+f=k+(f+1) by omega]at this
theorem aka {e:TypeId} {t:aD} {bytes:Nat} (h:K8 P e t bytes=true):qC P e t bytes:=by
 unfold K8 at h;split at h
 ·rename_i cW nh;simp only[bB,Nat.beq_eq]at h;obtain ⟨⟨⟨⟨aa,ad⟩,al⟩,aE⟩,aZ⟩:=h;split at aZ
  ·rename_i z bz;simp only[bB,Nat.beq_eq]at aZ;exact ⟨cW,z,nh,aa,ad,by simpa using al,bz,by simpa using aE,aZ.1,fun φ w=>CI _ _ _ aZ.2⟩
  ·cases aZ
 ·cases h
theorem UL (h:DE P cx T i=true):jB P cx T i:=by
 have agg: ∀ty:aD,(bif i.arr then (match P.underlying T with
   |some (.array n e)=>Nat.beq i.fields.length n&&(match P.info? e with
    |some cW=>yb cx ty e cW.size 0 i.fields
    |none=>false)
   |_=>false)
  else (match P.underlying T with
   |some (.struct fs)=>Nat.beq fs.size i.fields.length&&x0 cx ty fs 0 i.fields
   |_=>false))=true->(i.arr=false/\ ∃fs,P.underlying T=some (.struct fs)/\fs.size=i.fields.length/\ ∀(f:Nat) U,i.fields[f]? =some U-> ∃fd,fs[f]? =some fd/\fd.type=U/\l7 P cx ty f U fd.offset)\/
   (i.arr=true/\ ∃n e cW,P.underlying T=some (.array n e)/\i.fields.length=n/\P.info? e=some cW/\ ∀(f:Nat) U,i.fields[f]? =some U->U=e/\l7 P cx ty f U (f*cW.size)):=by
  intro ty h;cases aR:i.arr
  ·simp only[aR,aL]at h;split at h
   ·rename_i fs iv;simp only[bB,Nat.beq_eq]at h;refine .inl ⟨rfl,fs,iv,h.1,fun f U hH=> ?_⟩;have:=T5 (P:=P) i.fields 0 h.2 f U hH;simpa using this
   ·cases h
  ·simp only[aR,aA]at h;split at h
   ·rename_i n e cf;simp only[bB,Nat.beq_eq]at h;obtain ⟨aa,ad⟩:=h;split at ad
    ·rename_i cW nh;refine .inr ⟨rfl,n,e,cW,cf,aa,nh,fun f U hH=> ?_⟩;have:=UM (P:=P) i.fields 0 ad f U hH;simpa using this
    ·cases ad
   ·cases h
 unfold DE at h;unfold jB;cases aU:i.ty with
 |bool=>
  simp only[aU]at h ⊢;split at h
  ·assumption
  ·cases h
 |int k=>
  simp only[aU]at h ⊢;split at h
  ·rename_i j ay;have:j=k:=of_decide_eq_true h;rw[ay,this]
  ·cases h
 |str=>
  simp only[aU]at h ⊢;split at h
  ·assumption
  ·cases h
 |list t=>
  simp only[aU,bB]at h ⊢;obtain ⟨⟨aa,ad⟩,al⟩:=h;refine ⟨?_,aka ad,?_⟩
  ·split at aa
   ·rename_i e he;rw[he,Nat.eq_of_beq_eq_true aa]
   ·cases aa
  ·split at al
   ·rename_i u hu;exact ⟨u,hu,of_decide_eq_true al⟩
   ·cases al
 |opq=>
  simp only[aU]at h ⊢;split at h
  ·cases h
  ·cases h
  ·rename_i d aa ad ax;exact ⟨d,ax,fun x e fs=>⟨fun h=>aa x e (by rw[h]),fun h=>ad fs (by rw[h])⟩⟩
  ·cases h
 |unit=>
  simp only[aU]at h ⊢;exact agg .unit h
 |pair x y=>
  simp only[aU]at h ⊢;exact agg (.pair x y) h
end
def DH (P:Program) (T:TypeId) (i:e4):Bool:= !i.nil||(match P.underlying T with |some (.interface _)=>true |_=>false)
def Lv (P:Program) (T:TypeId) (nm:String) (f:Nat):Bool:=match P.info? T with
 |some info=>match info.methods.find? (·.name==nm) with
  |some m=>m.path.isEmpty&&(match m.func with
   |some (g,FX)=>Nat.beq g f&&(match P.underlying T with
    |some (.pointer _)=>FX
    |some _=> !FX
    |none=>false)
   |none=>false)
  |none=>false
 |none=>false
def DI (P:Program) (T:TypeId) (i:e4):Bool:=i.meths.all fun p=>Lv P T p.1 p.2
theorem UN {P:Program} {T:TypeId} {i:e4} (h:DH P T i=true):i.nil=true-> ∃ms,P.underlying T=some (.interface ms):=by
 intro aQ;simp only[DH,aQ,dt,Bool.false_or]at h;split at h
 ·rename_i ms aq2;exact ⟨ms,aq2⟩
 ·cases h
theorem alS {P:Program} {T:TypeId} {nm:String} {f:Nat} (h:Lv P T nm f=true):Oo P T nm f:=by
 intro v w;unfold Lv at h;split at h
 ·rename_i info ab;split at h
  ·rename_i m hm;simp only[bB]at h;obtain ⟨aa,ad⟩:=h;split at ad
   ·rename_i g FX bH;simp only[bB,Nat.beq_eq]at ad;obtain ⟨rfl,al⟩:=ad;have aP:m.path= #[]:=by simpa using aa
    obtain ⟨k,av⟩: ∃k,P.types.size+Made.depth=k+1:=⟨P.types.size+Made.depth-1,by
                                                   have:0<Made.depth:=by decide
                                                   omega⟩
    rw[av];unfold method;simp only[typeInfo,Sem.run_bind,Sem.run_pure,Result.andThen_ok];split at al
    ·rename_i e hu;subst al;simp[typeInfo,ab,hm,aP,follow,bH,receiverAt,run_underlying hu,Place.get]
    ·rename_i d ax hu;have:FX=false:=by simpa using al
     subst this;cases d<;>first |(exact absurd rfl (ax _))|(simp[typeInfo,ab,hm,aP,follow,bH,receiverAt,run_underlying hu,Place.get])
    ·cases al
   ·cases ad
  ·cases h
 ·cases h
theorem US {P:Program} {T:TypeId} {i:e4} (h:DI P T i=true): ∀nm f,tg i.meths nm=some f->Oo P T nm f:=by
 unfold DI at h;intro nm f;generalize i.meths=l at h
 induction l with
 |nil=>intro ad;simp[tg]at ad
 |cons p l aO=>
  obtain ⟨n,g⟩:=p;simp only[List.all_cons,bB]at h;intro ad;simp only[tg]at ad;cases ag:n==nm
  ·rw[ag]at ad;exact aO h.2 ad
  ·rw[ag,aA]at ad;obtain rfl:=Option.some.inj ad;have:n=nm:=by simpa using ag
   subst this;exact alS h.1
def KV (P:Program) (cx:bS):Bool:=cx.tab.all fun p=>DU P cx p.1 p.2&&DE P cx p.1 p.2&& !p.2.cmp&&DH P p.1 p.2&&DI P p.1 p.2
theorem aot {P:Program} {cx:bS} (h:KV P cx=true):cA P cx:=by
 have dq: ∀(l:List (Nat×e4)) T i,bS.ti.go T l=some i->(T,i)∈l:=by
  intro l T i
  induction l with
  |nil=>intro h;simp[bS.ti.go]at h
  |cons p l aO=>
   obtain ⟨U,j⟩:=p;intro h;simp only[bS.ti.go]at h;cases ag:Nat.beq T U
   ·simp only[ag,aL]at h;exact List.mem_cons_of_mem _ (aO h)
   ·simp only[ag,aA,bs]at h;have:T=U:=by simpa using ag
    subst this h;simp
 intro T i ab;have hm:=dq cx.tab T i ab;unfold KV at h;rw[List.all_eq_true]at h;have aa:=h _ hm;simp only[bB,Bool.not_eq_true']at aa;exact ⟨Wf aa.1.1.1.1,UL aa.1.1.1.2,fun aB=>(by rw[aa.1.1.2]at aB;cases aB),UN aa.1.2,US aa.2⟩
open Go.RowKit
def Told (w:World):bw:=fun b k=> ∃v,w.cell? ⟨b,k,none⟩=some v
def aD.comps:aD->Nat
 | .pair _ b=>b.comps+1 |_=>0
def aD.good (B:aD->Nat):(t:aD)->t.den->Prop
 | .bool,_=>True
 | .int k,x=>(Lit.int k x).wf=true
 | .str,x=>x.length<=reachBytes
 | .opq,_=>False
 | .unit,_=>True
 | .list t,xs=>xs.length*B t<=reachBytes/\ ∀x∈xs,t.good B x
 | .pair a b,x=>a.good B x.1/\b.good B x.2
def aD.small (N:Nat):(t:aD)->t.den->Prop
 | .str,x=>x.length<=N
 | .list t,xs=>xs.length<=N/\ ∀x∈xs,t.small N x
 | .pair a b,x=>a.small N x.1/\b.small N x.2
 |_,_=>True
structure HH (H:Type) where
 U:DataW H->Nat
 A:List (DataW H)->Nat
 str: ∀s,s.length<=U (.lit (.string s))
 slice: ∀es sp,A es<=U (.slice es sp)
 agg: ∀ps,A ps<=U (.agg ps)
 mem: ∀d l,d∈l->U d<=A l
 len: ∀l,l.length<=A l
def uV (cx:bS) (B:aD->Nat):Nat->TypeId->Bool
 |0,_=>false
 |n+1,T=>match cx.ti T with
  |some i=>(match i.ty with
   | .bool=>true
   | .int _=>true
   | .str=>true
   | .opq=>false
   | .list t=>Nat.beq i.bytes (B t)&&uV cx B n i.elem
   |ty=>ty.chain&&Nat.beq ty.comps i.fields.length&&i.fields.all (uV cx B n))
  |none=>false
theorem aD.nth_comps: ∀(t:aD) (f:Nat) (u:aD),t.nth f=some u->f<t.comps
 | .pair a b,0,u,h=>by simp[aD.comps]
 | .pair a b,f+1,u,h=>by have:=aD.nth_comps b f u h;simp[aD.comps];exact this
 | .bool,f,u,h=>by cases f<;>simp[aD.nth]at h
 | .int _,f,u,h=>by cases f<;>simp[aD.nth]at h
 | .str,f,u,h=>by cases f<;>simp[aD.nth]at h
 | .opq,f,u,h=>by cases f<;>simp[aD.nth]at h
 | .unit,f,u,h=>by cases f<;>simp[aD.nth]at h
 | .list _,f,u,h=>by cases f<;>simp[aD.nth]at h
section
variable {H:Type} {enc:TypeId×Value->H} {P:Program} {cx:bS} {w:World} {base:Nat} {spare:Nat->Bool} {held:Bool} {B:aD->Nat}
theorem JR {M:Prop} {N:Nat}: ∀(t:aD) (cs:List Value),t.chain=true->cs.length=t.size->(∀f u,t.nth f=some u-> ∃y:u.den,bg (Told w) w u y ((cs.drop (t.offs f)).take u.size)/\u.good B y/\(M->u.small N y))-> ∃y:t.den,bg (Told w) w t y cs/\t.good B y/\(M->t.small N y)
 | .unit,cs,_,ao,_=>⟨(),List.eq_nil_of_length_eq_zero (by simpa [aD.size] using ao),trivial,fun _=>trivial⟩
 | .pair a b,cs,aB,ao,h=>by
  obtain ⟨x,aw,gx,eT⟩:=h 0 a rfl;have pe:cs.length=a.size+b.size:=ao;obtain ⟨y,bf,o8,pH⟩:=JR b (cs.drop a.size) aB (by rw[List.length_drop];omega) fun f u hu=>by
   have:=h (f+1) u hu;simp only[aD.offs]at this
   rwa [<-List.drop_drop]at this
  simp only[aD.offs,List.drop_zero]at aw;exact ⟨(x,y),⟨_,_,(List.take_append_drop a.size cs).symm,aw,bf⟩,⟨gx,o8⟩,fun m=>⟨eT m,pH m⟩⟩
 | .bool,_,h,_,_=>by cases h
 | .int _,_,h,_,_=>by cases h
 | .str,_,h,_,_=>by cases h
 | .opq,_,h,_,_=>by cases h
 | .list _,_,h,_,_=>by cases h
theorem Gj: ∀(lv:List TypeId) (eh:List (DataW H)) (j:Nat) (t:TypeId) (d:DataW H),(DataW.weightsEach P lv eh).all (· <=reachBytes)=true->lv[j]? =some t->eh[j]? =some d->(d.weights P t).all (· <=reachBytes)=true
 |[],_,j,t,d,_,aU,_=>by simp at aU
 |_::_,[],j,t,d,_,_,ax=>by simp at ax
 |u::lv,e::eh,j,t,d,h,aU,ax=>by
  simp only[DataW.weightsEach,List.all_append,bB]at h;cases j with
  |zero=>
   obtain rfl:u=t:=by simpa using aU
   obtain rfl:e=d:=by simpa using ax
   exact h.1
  |succ j=>exact Gj lv eh j t d h.2 (by simpa using aU) (by simpa using ax)
theorem H4 {t:TypeId}: ∀(eh:List (DataW H)) (j:Nat) (d:DataW H),(DataW.weightsAll P t eh).all (· <=reachBytes)=true->eh[j]? =some d->(d.weights P t).all (· <=reachBytes)=true
 |[],j,d,_,ax=>by simp at ax
 |e::eh,j,d,h,ax=>by
  simp only[DataW.weightsAll,List.all_append,bB]at h;cases j with
  |zero=>
   obtain rfl:e=d:=by simpa using ax
   exact h.1
  |succ j=>exact H4 eh j d h.2 (by simpa using ax)
theorem anU {a:Addr} {n:Nat} {c:List Value} (h:w.cells? base a n=some c):c.length=n/\ ∀(k:Nat) (v:Value),c[k]? =some v->w.cell? (a.add k)=some v:=by
 unfold World.cells? at h;split at h
 ·have key: ∀(l:List Nat) (c:List Value),l.mapM (fun i=>w.cell? (a.add i))=some c->c.length=l.length/\ ∀(k:Nat) (v:Value) (i:Nat),c[k]? =some v->l[k]? =some i->w.cell? (a.add i)=some v:=by
   intro l
   induction l with
   |nil=>intro c h;simp at h;subst h;simp
   |cons i l aO=>
    intro c h;rw[List.mapM_cons]at h;simp only[Option.bind_eq_bind,Option.bind_eq_some_iff]at h;obtain ⟨v,aX,c',aB,ad⟩:=h;obtain rfl:v::c'=c:=by simpa using ad
    obtain ⟨al,aE⟩:=aO c' aB;refine ⟨by simp[al],fun k u j av ay=> ?_⟩;cases k with
    |zero=>
     obtain rfl:v=u:=by simpa using av
     obtain rfl:i=j:=by simpa using ay
     exact aX
    |succ k=>exact aE k u j (by simpa using av) (by simpa using ay)
  obtain ⟨aa,ad⟩:=key _ _ h;have ao:c.length=n:=by simpa using aa
  refine ⟨ao,fun k v av=>ad k v k av ?_⟩;have:k<n:=by rw[<-ao];exact (List.getElem?_eq_some_iff.1 av).1
  simp[this]
 ·cases h
theorem CH (tab:cA P cx) {T:TypeId} {i:e4} (h:cx.ti T=some i):P.cellsOf T=i.ty.size:=by
 obtain ⟨info,aa,ad,_⟩:=(tab T i h).info;simp[Program.cellsOf,aa,ad]
theorem C7 (tab:cA P cx) (jz:HH H) {N:Nat}: ∀(n:Nat) (T:TypeId) (i:e4) (fuel:Nat) (cs:List Value) (x:DataW H×List MemPlace),uV cx B n T=true->cx.ti T=some i->DataW.trod enc P w base spare held fuel T cs=some x->(x.1.weights P T).all (· <=reachBytes)=true->
  ∃y:i.ty.den,bg (Told w) w i.ty y cs/\i.ty.good B y/\(jz.U x.1<=N->i.ty.small N y)
 |0,T,i,fuel,cs,x,az,_,_,_=>by cases az
 |n+1,T,i,fuel,cs,x,az,ab,h,hw=>by
  have agg: ∀ty:aD,ty=i.ty->(ty=.unit\/ ∃a b,ty=.pair a b)->(ty.chain&&Nat.beq ty.comps i.fields.length&&i.fields.all (uV cx B n))=true->
    ((i.arr=false/\ ∃fs,P.underlying T=some (.struct fs)/\fs.size=i.fields.length/\ ∀(f:Nat) U,i.fields[f]? =some U-> ∃fd,fs[f]? =some fd/\fd.type=U/\l7 P cx ty f U fd.offset)\/
   (i.arr=true/\ ∃n e cW,P.underlying T=some (.array n e)/\i.fields.length=n/\P.info? e=some cW/\ ∀(f:Nat) U,i.fields[f]? =some U->U=e/\l7 P cx ty f U (f*cW.size)))-> ∃y:ty.den,bg (Told w) w ty y cs/\ty.good B y/\(jz.U x.1<=N->ty.small N y):=by
   intro ty dH _ aB ax;simp only[bB,Nat.beq_eq,List.all_eq_true]at aB;obtain ⟨⟨my,j3⟩,zr⟩:=aB;have dh:P.cellsOf T=ty.size:=by rw[CH tab ab,dH]
   rcases ax with ⟨-,fs,hu,iv,aJ⟩|⟨-,m,e,cW,hu,hm,nh,aJ⟩
   ·obtain ⟨xs,k,rfl,rfl,ao,z7,aw⟩:=DataW.trod_struct hu h;refine JR ty cs my (ao.trans dh) fun f u zD=> ?_
    have a8:=aD.nth_comps ty f u zD;have hH:i.fields[f]? =some i.fields[f]:=List.getElem?_eq_getElem (by omega);obtain ⟨fd,lf,aaI,vK,j,ay,aQ,vN⟩:=aJ f _ hH;rw[zD]at aQ;have NS:u=j.ty:=by simpa using aQ
    subst NS;have aa:=aw f fd lf;have kE:f<xs.length:=by omega
    rw[List.getElem?_eq_getElem kE,aaI,CH tab ay,vK]at aa;obtain ⟨y,bf,o8,pH⟩:=C7 tab jz n _ j k _ _ (zr _ (List.getElem_mem _)) ay aa (by
     simp only[DataW.weights,hu]at hw;refine Gj _ _ f i.fields[f] _ hw ?_ ?_
     ·simp[lf,aaI]
     ·simp[List.getElem?_eq_getElem kE])
    exact ⟨y,bf,o8,fun m=>pH (Nat.le_trans (Nat.le_trans (jz.mem _ _ (List.mem_map.2 ⟨_,List.getElem_mem kE,rfl⟩)) (jz.agg _)) m)⟩
   ·obtain ⟨xs,k,rfl,rfl,ao,z7,aw⟩:=DataW.trod_array hu h;refine JR ty cs my (ao.trans dh) fun f u zD=> ?_
    have a8:=aD.nth_comps ty f u zD;have hH:i.fields[f]? =some i.fields[f]:=List.getElem?_eq_getElem (by omega);obtain ⟨MQ,vK,j,ay,aQ,vN⟩:=aJ f _ hH;rw[zD]at aQ;have NS:u=j.ty:=by simpa using aQ
    subst NS;have aa:=aw f (by omega);have kE:f<xs.length:=by omega
    have M1:P.cellsOf e=j.ty.size:=by rw[<-MQ];exact CH tab ay
    have aqu:cW.size=P.cellsOf e:=by simp[Program.cellsOf,nh]
    rw[List.getElem?_eq_getElem kE]at aa;rw[aqu]at vK;rw[vK,M1]at aa;obtain ⟨y,bf,o8,pH⟩:=C7 tab jz n e j k _ _ (by rw[<-MQ];exact zr _ (List.getElem_mem _)) (by rw[<-MQ];exact ay) aa (by
     simp only[DataW.weights,hu]at hw;exact H4 _ f _ hw (by simp[List.getElem?_eq_getElem kE]))
    exact ⟨y,bf,o8,fun m=>pH (Nat.le_trans (Nat.le_trans (jz.mem _ _ (List.mem_map.2 ⟨_,List.getElem_mem kE,rfl⟩)) (jz.agg _)) m)⟩
  have ax:=(tab T i ab).desc;simp only[uV,ab]at az;unfold jB at ax;cases aU:i.ty with
  |bool=>
   simp only[aU]at ax;obtain ⟨b,rfl,-⟩:=DataW.trod_bool ax h;exact ⟨b,rfl,trivial,fun _=>trivial⟩
  |int k=>
   simp only[aU]at ax;obtain ⟨b,rfl,-,arF⟩:=DataW.trod_int ax h;exact ⟨b,rfl,arF,fun _=>trivial⟩
  |str=>
   simp only[aU]at ax;obtain ⟨s,rfl,rfl,au⟩:=DataW.trod_string ax h;refine ⟨s.data.toList,rfl,?_,fun m=>Nat.le_trans (jz.str _) m⟩;have hw:(DataW.weights P T (.lit (.string s.data.toList):DataW H)).all (· <=reachBytes)=true:=hw;simp only[DataW.weights,List.all_cons,List.all_nil,Bool.and_true,db]at hw;exact hw
  |opq=>simp only[aU]at az;cases az
  |unit=>
   simp only[aU]at ax az;exact agg .unit aU.symm (.inl rfl) az ax
  |pair a b=>
   simp only[aU]at ax az;exact agg (.pair a b) aU.symm (.inr ⟨a,b,rfl⟩) az ax
  |list t=>
   simp only[aU]at ax az;obtain ⟨hu,⟨cW,z,ai,aq,bb,bx,c9,cV,iJ,k7⟩,u,zY,rfl⟩:=ax;simp only[bB,Nat.beq_eq]at az;have M1:P.cellsOf i.elem=u.ty.size:=CH tab zY;rcases DataW.trod_slice hu h with ⟨rfl,rfl⟩|⟨a,len,cap,mm,rest,k,rfl,rfl,rfl,ag,ao,hm,hlen,fg,-⟩
   ·exact ⟨[],⟨none,0,0,rfl,rfl,Nat.le_refl _,.inl rfl⟩,⟨by simp[reachBytes],by simp⟩,fun _=>⟨Nat.zero_le _,by simp⟩⟩
   ·simp only[DataW.weights,hu,List.all_cons,List.all_append,bB,db,List.length_map]at hw;obtain ⟨fG,arE,abi⟩:=hw;have zp:P.bytesOf i.elem=B u.ty:=by simp[Program.bytesOf,ai,bb,az.1]
    rw[M1]at fg;have build: ∀m,m<=len-> ∃(aT:List u.ty.den) (c:List Value),aT.length=m/\c.length=m*u.ty.size/\cw (bg (Told w) w u.ty) aT c/\(∀j v,c[j]? =some v->w.cell? (a.add j)=some v)/\ ∀y∈aT,u.ty.good B y/\(jz.A (mm.map (·.1))<=N->u.ty.small N y):=by
     intro m
     induction m with
     |zero=>intro _;exact ⟨[],[],rfl,by simp,rfl,by simp,by simp⟩
     |succ m aO=>
      intro zL;obtain ⟨aT,c,aa,ad,al,aE,aZ⟩:=aO (by omega);have aw:=fg m (by omega);have kE:m<mm.length:=by omega
      rw[List.getElem?_eq_getElem kE]at aw;obtain ⟨a7,my,aw⟩:=Option.bind_eq_some_iff.1 aw;obtain ⟨y,bf,o8,pH⟩:=C7 tab jz n i.elem u k a7 _ az.2 zY aw (H4 _ m _ arE (by simp[List.getElem?_eq_getElem kE]));obtain ⟨g1,g2⟩:=anU my;refine ⟨aT++[y],c++a7,by simp[aa],by simp[ad,g1,Nat.add_mul],cw.append aT [y] c a7 al ⟨a7,[],by simp,bf,rfl⟩,fun j v ay=> ?_,fun z bz=> ?_⟩
      ·rcases Nat.lt_or_ge j c.length with h |h
       ·rw[List.getElem?_append_left h]at ay;exact aE j v ay
       ·rw[List.getElem?_append_right h]at ay;have:=g2 _ v ay;have EH:(a.add (m*u.ty.size)).add (j-c.length)=a.add j:=by
         rw[Addr.add_add];congr 1;omega
        rwa [EH]at this
      ·rcases List.mem_append.1 bz with h |h
       ·exact aZ z h
       ·simp at h;subst h;exact ⟨o8,fun hm=>pH (Nat.le_trans (jz.mem _ _ (List.mem_map.2 ⟨_,List.getElem_mem kE,rfl⟩)) hm)⟩
    obtain ⟨aT,c,aa,ad,al,aE,aZ⟩:=build len (Nat.le_refl _);refine ⟨aT,⟨some a,len,cap,rfl,aa,ao,?_⟩,⟨?_,fun y bf=>(aZ y bf).1⟩,fun hm=> ?_⟩
    ·rcases Nat.eq_zero_or_pos len with bX |bX
     ·exact .inl bX
     ·right;have fO:0<c.length:=by rw[ad];exact Nat.mul_pos bX cV
      have eX:=aE 0 c[0] (List.getElem?_eq_getElem fO);obtain ⟨RD,W5,X8⟩:=a;have sU:X8=none:=by
       cases X8 with
       |none=>rfl
       |some s=>
        exfalso;have au:((⟨RD,W5,some s⟩:Addr).add 0).spot=some s:=by unfold Addr.add;split<;>simp_all
        unfold World.cell? at eX;split at eX
        ·rw[au]at eX;simp at eX
        ·cases eX
      subst sU;refine ⟨RD,W5,c,rfl,fun j v ay=> ?_,al⟩;have:=aE j v ay;rw[fY]at this;exact ⟨⟨v,this⟩,this⟩
    ·rw[aa,<-zp];exact Nat.le_trans (Nat.mul_le_mul_right _ (by omega)) fG
    ·have dO:=Nat.le_trans (jz.slice _ _) hm;refine ⟨?_,fun y bf=>(aZ y bf).2 dO⟩;have:=Nat.le_trans (jz.len (mm.map (·.1))) dO;rw[List.length_map]at this;omega
end
open Go.RowKit
section
variable {H:Type} {enc:TypeId×Value->H} {P:Program} {cx:bS} {W:World} {base:Nat} {spare:Nat->Bool} {held:Bool} {B:aD->Nat}
theorem at8 (tab:cA P cx) {T:TypeId} {i:e4} (ab:cx.ti T=some i) (cf:i.ty≠ .opq) {r:Reach} {b:Nat} {v:Value} (h:Value.okWide P W r b T v):iy v=i.ty.isAgg:=by
 have ax:=(tab T i ab).desc;unfold jB at ax;unfold Value.okWide at h;have cell: ∀d,P.underlying T=some d->(∀fs,d≠ .struct fs)->(∀n e,d≠ .array n e)->Cell.okWide P W r b T v->(d=.bool\/(∃k,d=.int k)\/d=.string\/ ∃e,d=.slice e)->iy v=false:=by
  intro d ax _ _ aB mz;simp only[Cell.okWide,ax]at aB;rcases mz with rfl |⟨k,rfl⟩|rfl |⟨e,rfl⟩<;>cases v<;>first |rfl |(simp_all [Cell.ok,iy])
 cases aU:i.ty with
 |bool=>
  simp only[aU]at ax;simp only[ax]at h;exact cell _ ax (by simp) (by simp) h (.inl rfl)
 |int k=>
  simp only[aU]at ax;simp only[ax]at h;exact cell _ ax (by simp) (by simp) h (.inr (.inl ⟨k,rfl⟩))
 |str=>
  simp only[aU]at ax;simp only[ax]at h;exact cell _ ax (by simp) (by simp) h (.inr (.inr (.inl rfl)))
 |list t=>
  simp only[aU]at ax;simp only[ax.1]at h;exact cell _ ax.1 (by simp) (by simp) h (.inr (.inr (.inr ⟨_,rfl⟩)))
 |opq=>exact absurd aU cf
 |unit=>
  simp only[aU]at ax;rcases ax with ⟨_,fs,ax,_⟩|⟨_,n,e,cW,ax,_⟩<;> · simp only[ax]at h;obtain ⟨cs,rfl,-⟩:=h;rfl
 |pair x y=>
  simp only[aU]at ax;rcases ax with ⟨_,fs,ax,_⟩|⟨_,n,e,cW,ax,_⟩<;> · simp only[ax]at h;obtain ⟨cs,rfl,-⟩:=h;rfl
theorem XV (tab:cA P cx) (jz:HH H) {M N:Nat} {T:TypeId} {i:e4} (az:uV cx B N T=true) (ab:cx.ti T=some i) (cf:i.ty≠ .opq) {r:Reach} {b:Nat} {v:Value} (cJ:Value.okWide P W r b T v) {d:DataW H} {ps:List MemPlace} (h:DataW.Trod enc P W base spare held T v d ps)
  (hw:(d.weights P T).all (· <=reachBytes)=true): ∃y:i.ty.den,cd (Told W) W i.ty y v/\i.ty.good B y/\(jz.U d<=M->i.ty.small M y):=by
 obtain ⟨fuel,aJ⟩:=h;obtain ⟨y,bf,o8,pH⟩:=C7 tab jz N T i fuel _ _ az ab aJ hw;exact ⟨y,⟨bf,at8 tab ab cf cJ⟩,o8,pH⟩
mutual
def nP:DataW H->Nat
 | .lit (.string bytes)=>bytes.length+1
 | .lit _=>1
 | .nil=>1
 | .ptr d=>nP d+1
 | .slice mm spare=>r7 mm+r7 spare+1
 | .agg parts=>r7 parts+1
 | .iface _ d=>nP d+1
 | .map _=>1
 | .held _=>1
def r7:List (DataW H)->Nat
 |[]=>0
 |d::r=>nP d+r7 r
end
def Y6 (H:Type):HH H where
 U:=nP
 A:=r7
 str s:=by simp[nP]
 slice es sp:=by simp only[nP];omega
 agg ps:=by simp only[nP];omega
 mem d l h:=by
  induction l with
  |nil=>cases h
  |cons e l aO=>
   simp only[r7];rcases List.mem_cons.1 h with rfl |h
   ·omega
   ·have:=aO h;omega
 len l:=by
  induction l with
  |nil=>simp
  |cons e l aO=>
   have:1<=nP e:=by
    cases e with
    |lit l=>cases l<;>simp[nP]
    |_=>simp[nP]
   simp only[r7,List.length_cons];omega
theorem ane [Env] (zE: ∀g,iT (Told W) W g 0 ((Env.glob g).map k9)) {f:FuncId} {args:List ae} {r:ae} {aC:List aG} (g:iG P f args [] r aC) (eu:ae.idsL args=[]) {vs:Array Value} (dy:ae.relT (Told W) (fun _=>undef) W args vs.toList):
  Calls P f vs W fun e w'=> ∃v φ' ι',e=.returned v/\r.rel φ' ι' w' v/\Below W.heap.size W w':=by
 have bX:bP (Told W) (fun _=>undef) W []:=by
  refine ⟨fun o=> ?_,fun o de b h=> ?_,fun b k h=>h,fun o i h=> ?_,zE⟩
  ·rw[nv (Nat.zero_le _)];trivial
  ·rw[nv (Nat.zero_le _)]at h;cases h
  ·rw[nv (Nat.zero_le _)]at h;simp[aG.ids]at h
 refine Calls.mono (g.2 (Told W) (fun _=>undef) W vs bX (fun i h=>by simp at h) dy (fun i h=>by rw[eu]at h;simp at h)) fun e w'=> ?_
 rintro ⟨v,φ',ι',he,-,s,-,az,-⟩;refine ⟨v,φ',ι',he,az,⟨s.os,s.tape,s.output,s.size,fun k av=>s.blocks k av ?_⟩⟩;rintro ⟨o,h,-⟩;rw[nv (Nat.zero_le _)]at h;cases h
theorem aow [Env] (zE: ∀g,iT (Told W) W g 0 ((Env.glob g).map k9)) {f:FuncId} {args:List ae} {aC:List aG} (g:iG P f args [] (.dat .bool true) aC) (eu:ae.idsL args=[]) {vs:Array Value} (dy:ae.relT (Told W) (fun _=>undef) W args vs.toList):
  Calls P f vs W fun e w'=>e=.returned (.bool true)/\Below W.heap.size W w':=by
 refine Calls.mono (ane zE g eu dy) fun e w'=> ?_
 rintro ⟨v,φ',ι',he,az,ag⟩;have:v=.bool true:=cd.bool.1 az;exact ⟨by rw[he,this],ag⟩
end
open Go.RowKit
def Lj [Env] (P:Program):List aS->Prop
 |[]=>True
 |E::l=>oX P E/\Lj P l
theorem bG [Env] {P:Program}: ∀{l:List aS},Lj P l->bO P (gi l):=by
 intro l h;refine Wh l fun E hY=> ?_
 induction l with
 |nil=>cases hY
 |cons F l aO=>
  rcases List.mem_cons.1 hY with rfl |hY
  ·exact h.1
  ·exact aO h.2 hY
def mT [Env] (P:Program) (F:ba) (nt:Nat):List (Nat×Code)->Prop
 |[]=>True
 |q::l=>fT P F nt q.1 q.2/\mT P F nt l
theorem tO [Env] {P:Program} {F:ba} {nt:Nat}: ∀{l m:List (Nat×Code)},l=m->mT P F nt m-> ∀q∈l,fT P F nt q.1 q.2:=by
 rintro l m rfl h q aN
 induction l with
 |nil=>cases aN
 |cons F l aO=>
  rcases List.mem_cons.1 aN with rfl |aN
  ·exact h.1
  ·exact aO h.2 aN
theorem JV {σ ρ:Type} {b:σ->Option (σ⊕ρ)} {s:σ} {r:ρ} (h:bM b s=some r): ∃n,dR b n s=some r:=⟨_,h⟩
theorem Xc {σ ρ:Type} {b:σ->Option (σ⊕ρ)}: ∀{n:Nat} {s:σ} {r:ρ} (k:Nat),dR b n s=some r->dR b (n+k) s=some r
 |0,s,r,k,h=>by cases h
 |n+1,s,r,k,h=>by
  rw[show n+1+k=(n+k)+1 by omega];simp only[dR]at h ⊢;cases ag:b s with
  |none=>rw[ag]at h;cases h
  |some q=>
   rw[ag]at h;cases q with
   |inl t=>exact Xc k h
   |inr r=>exact h
theorem lp {σ ρ:Type} {b:σ->Option (σ⊕ρ)} {s:σ} {r:ρ} {n:Nat} (aQ:n<=jV) (h:dR b n s=some r):bM b s=some r:=by
 obtain ⟨k,av⟩:=Nat.le.dest aQ;unfold bM;rw[<-av];exact Xc k h
theorem rH [Env] {P:Program} {F:ba} {nt:Nat} (tab:cA P F.cx) (cE:bO P F.Γ) (hm:P.follows .mixedOrders=true) {L:bA} {c:Code} {k:Nat} {b:L.S.ty.den->Option (L.S.ty.den⊕L.Out)} {f:L.S.ty.den->Option L.Out} (M9: ∀s,f s=bM b s) (lY:F.Λ k=L.go f F.m)
  {m:List (Nat×Code)} (hK:dF c k=m) (dq:mT P F nt m) (aB:fS nt c=true) (cv:h8 P F nt c) (ag: ∀s,(L.body F c k s).val=b s):fT P F nt k c:=by
 refine amX tab cE hm lY (tO hK dq) aB cv fun s o h=> ?_
 rw[M9]at h;obtain ⟨n,aQ⟩:=JV h;exact ⟨n,by rw[show (fun s=>(L.body F c k s).val)=b from funext ag];exact aQ⟩
theorem rG [Env] {P:Program} {F:ba} (tab:cA P F.cx) (cE:bO P F.Γ) (hm:P.follows .mixedOrders=true) {E:aS} {fn:Func} (aJ:P.funcs[E.f]? =some fn) (ag:fn.body=some (bK fn)) (cJ:lH fn E.S E.Z=true)
  {m:List (Nat×Code)} (hK:dF (bK fn) 0=m) (dq:mT P F fn.ntmps m) (cv:h8 P F fn.ntmps (bK fn)) (ej:F.m=E.S.objs.length) (bH: ∀s,(k5 F fn E.S E.Z s).val=E.g s):ck P E:=
 ang tab cE hm aJ ag cJ (tO hK dq) cv ej fun s z h=>(bH s).trans h
open Go.RowKit
def ss (P:Program) (cx:bS):Nat->TypeId->Bool
 |0,_=>false
 |n+1,T=>match cx.ti T with
  |none=>false
  |some i=>(match i.ty with
   | .bool=>true
   | .int _=>true
   | .str=>true
   | .list _=>false
   | .opq=>false
   |ty=> !i.arr&&ty.chain&&Nat.beq ty.comps i.fields.length&& !P.stoodInHeld T&&(match P.underlying T with
    |some (.struct fs)=>fs.toList.all (fun f=> !(f.name== "_")&&ss P cx n f.type)
    |_=>false))
section
variable {P:Program} {cx:bS} {φ:bw} {w:World}
theorem YS (tab:cA P cx) {U:TypeId} {j:e4} (ay:cx.ti U=some j) {xs:Array Value} {off:Nat} {x:j.ty.den} (h:bg φ w j.ty x ((xs.toList.drop off).take j.ty.size)) (vN:0<j.ty.size):
  ∃v,(part U xs off).run P w=.ok v w/\cd φ w j.ty x v:=by
 refine ⟨m0 j.ty ((xs.toList.drop off).take j.ty.size),?_,(cd.of h).1⟩;unfold part m0;simp only[Sem.run_bind,J7 tab ay,Result.andThen_ok];by_cases aR:j.ty.isAgg=true
 ·rw[if_pos aR,if_pos aR];simp only[Sem.run_bind,BF tab ay,Result.andThen_ok,Sem.run_pure];congr 2;apply Array.ext';rw[Array.toList_extract,List.extract_eq_take_drop];simp
 ·simp only[Bool.not_eq_true]at aR;have ao:=h.len;have aa:((xs.toList.drop off).take j.ty.size)[0]? =some (((xs.toList.drop off).take j.ty.size).headD undef):=by
   cases aB:(xs.toList.drop off).take j.ty.size with
   |nil=>rw[aB]at ao;simp at ao;omega
   |cons a l=>rfl
  have ad:xs[off]? =some (((xs.toList.drop off).take j.ty.size).headD undef):=by
   rw[<-aa,List.getElem?_take,if_pos vN,List.getElem?_drop];simp
  simp only[aR,Bool.false_eq_true,if_false,ad,Sem.run_pure]
theorem T3 (tab:cA P cx) {d:Nat} {xs aT:Array Value} (aO: ∀U j,cx.ti U=some j->ss P cx d U=true-> ∀x y cj fI e,d<=e->cd φ w j.ty x cj->cd φ w j.ty y fI->(Op.equalIn e U cj fI).run P w=.ok (j.ty.eqb x y) w) {e:Nat} (he:d<=e):
  ∀(t:aD) (fs:List Field) (base:Nat) (x y:t.den),t.chain=true->fs.length=t.comps->(∀(f:Nat) fd,fs[f]? =some fd->(!(fd.name== "_")&&ss P cx d fd.type)=true/\fd.offset=base+t.offs f/\ ∃j,cx.ti fd.type=some j/\t.nth f=some j.ty/\0<j.ty.size)->
   bg φ w t x ((xs.toList.drop base).take t.size)->bg φ w t y ((aT.toList.drop base).take t.size)->(Op.eqFields e xs aT fs).run P w=.ok (t.eqb x y) w
 | .unit,[],base,x,y,_,_,_,_,_=>by simp[Op.eqFields,aD.eqb]
 | .unit,_::_,base,x,y,_,ao,_,_,_=>by simp[aD.comps]at ao
 | .pair a b,[],base,x,y,_,ao,_,_,_=>by simp[aD.comps]at ao
 | .pair a b,f::fs,base,x,y,aB,ao,aJ,aw,bf=>by
  obtain ⟨aa,ad,j,ay,aQ,vN⟩:=aJ 0 f rfl;have aqN:a=j.ty:=by simpa [aD.nth] using aQ
  subst aqN;simp only[bB,Bool.not_eq_true',beq_eq_false_iff_ne]at aa;have ad:f.offset=base:=by simpa [aD.offs] using ad
  have sp: ∀{z:(aD.pair j.ty b).den} {zs:Array Value},bg φ w (.pair j.ty b) z ((zs.toList.drop base).take (aD.pair j.ty b).size)->bg φ w j.ty z.1 ((zs.toList.drop base).take j.ty.size)/\bg φ w b z.2 ((zs.toList.drop (base+j.ty.size)).take b.size):=by
   intro z zs bz;obtain ⟨a7,aY,ai,a1,k2⟩:=bz;have dd:=a1.len;have cM:=k2.len;have dh:(aD.pair j.ty b).size=j.ty.size+b.size:=rfl;rw[dh,List.take_add]at ai;have hlen:((zs.toList.drop base).take j.ty.size).length=a7.length:=by
    have:=congrArg List.length ai;simp only[List.length_append,List.length_take,List.length_drop]at this ⊢;omega
   obtain ⟨aq,bb⟩:=List.append_inj ai hlen;rw[aq,<-List.drop_drop,bb];exact ⟨a1,k2⟩
  obtain ⟨mb,mS⟩:=sp aw;obtain ⟨hq,GU⟩:=sp bf;obtain ⟨kR,asQ,ady⟩:=YS tab ay mb vN;obtain ⟨aur,asR,adz⟩:=YS tab ay hq vN;have ld:=aO f.type j ay aa.2 x.1 y.1 kR aur e he ady adz;have rest:=T3 tab aO he b fs (base+j.ty.size) x.2 y.2 aB (by simpa [aD.comps] using ao) (fun k fd av=>by
   obtain ⟨g1,g2,dQ,g3,g4,g5⟩:=aJ (k+1) fd (by simpa using av);refine ⟨g1,?_,dQ,g3,by simpa [aD.nth] using g4,g5⟩;rw[g2];simp only[aD.offs];omega) mS GU
  rw[Op.eqFields,if_pos aa.1,ad];simp only[Sem.run_bind,asQ,asR,Result.andThen_ok,ld];simp only[aD.eqb];cases ag:j.ty.eqb x.1 y.1
  ·simp
  ·simpa using rest
 | .bool,_,_,_,_,h,_,_,_,_=>by cases h
 | .int _,_,_,_,_,h,_,_,_,_=>by cases h
 | .str,_,_,_,_,h,_,_,_,_=>by cases h
 | .opq,_,_,_,_,h,_,_,_,_=>by cases h
 | .list _,_,_,_,_,h,_,_,_,_=>by cases h
theorem W9 (tab:cA P cx): ∀(n:Nat) (T:TypeId) (i:e4),cx.ti T=some i->ss P cx n T=true-> ∀x y cj fI e,n<=e->cd φ w i.ty x cj->cd φ w i.ty y fI->(Op.equalIn e T cj fI).run P w=.ok (i.ty.eqb x y) w
 |0,T,i,_,h=>by cases h
 |n+1,T,i,ab,h=>by
  intro x y cj fI e he aw bf;obtain ⟨e,rfl⟩: ∃k,e=k+1:=⟨e-1,by omega⟩;simp only[ss,ab]at h;have ax:=(tab T i ab).desc;have agg: ∀ty:aD,i.ty=ty->ty.isAgg=true->(!i.arr&&ty.chain&&Nat.beq ty.comps i.fields.length&& !P.stoodInHeld T&&(match P.underlying T with
    |some (.struct fs)=>fs.toList.all (fun f=> !(f.name== "_")&&ss P cx n f.type)
    |_=>false))=true->((i.arr=false/\ ∃fs,P.underlying T=some (.struct fs)/\fs.size=i.fields.length/\ ∀(f:Nat) U,i.fields[f]? =some U-> ∃fd,fs[f]? =some fd/\fd.type=U/\l7 P cx ty f U fd.offset)\/
   (i.arr=true/\ ∃n e cW,P.underlying T=some (.array n e)/\i.fields.length=n/\P.info? e=some cW/\ ∀(f:Nat) U,i.fields[f]? =some U->U=e/\l7 P cx ty f U (f*cW.size)))->(Op.equalIn (e+1) T cj fI).run P w=.ok (i.ty.eqb x y) w:=by
   intro ty dH hZ ag mz;subst dH;simp only[bB,Bool.not_eq_true',Nat.beq_eq]at ag;obtain ⟨⟨⟨⟨b1,b2⟩,b3⟩,gI⟩,gU⟩:=ag;rcases mz with ⟨-,fs,hu,iv,aJ⟩|⟨aa,-⟩
   ·rw[hu]at gU;simp only[List.all_eq_true]at gU;have yw:=aw.2;have yx:=bf.2;rw[hZ]at yw yx;obtain ⟨apx,rfl⟩:=sf yw;obtain ⟨apy,rfl⟩:=sf yx;have aaG:P.fieldsOf T=fs:=by simp[Program.fieldsOf,hu]
    rw[run_equalIn_struct (P:=P) w e T apx apy (by rw[aaG];exact hu) gI,aaG];have eJ:=aw.1.len;have q1:=bf.1.len;refine T3 tab (fun U j ay aN x y cj fI e he=>W9 tab n U j ay aN x y cj fI e he) (d:=n) (by omega) i.ty fs.toList 0 x y b2 (by simp[iv,b3]) (fun f fd lf=> ?_) ?_ ?_
    ·have a8:f<fs.size:=by
      have:=(List.getElem?_eq_some_iff.1 lf).1;simpa using this
     obtain ⟨Z5,g1,g2,g3,j,g4,g5,g6⟩:=aJ f _ (List.getElem?_eq_getElem (by omega));have aqw:fs[f]? =some fd:=by simpa using lf
     rw[aqw]at g1;obtain rfl:=Option.some.inj g1;refine ⟨gU fd (List.mem_of_getElem? lf),by rw[g3,Nat.zero_add],j,by rw[g2];exact g4,g5,g6⟩
    ·have:=aw.1;rw[List.drop_zero,List.take_of_length_le (by rw[<-eJ];exact Nat.le_refl _)];exact this
    ·have:=bf.1;rw[List.drop_zero,List.take_of_length_le (by rw[<-q1];exact Nat.le_refl _)];exact this
   ·rw[b1]at aa;cases aa
  unfold jB at ax;obtain ⟨ty,el,Z7,auT,y2,aj6⟩:=i;simp only at ax h aw bf agg x y ⊢;cases ty with
  |bool=>
   obtain rfl:=cd.bool.1 aw;obtain rfl:=cd.bool.1 bf;exact R1 ax e x y w
  |int k=>
   obtain rfl:=cd.int.1 aw;obtain rfl:=cd.int.1 bf;simp only[Op.equalIn,Sem.run_bind,run_underlying ax,Result.andThen_ok,if_true,Sem.run_pure,aD.eqb];congr 1
  |str=>
   obtain rfl:=cd.str.1 aw;obtain rfl:=cd.str.1 bf;simp only[Op.equalIn,Sem.run_bind,run_underlying ax,Result.andThen_ok,Sem.run_pure,aD.eqb];congr 1;rw[beq_toListBytes,oi,oi,r6]
  |list t=>cases h
  |opq=>cases h
  |unit=>exact agg .unit rfl rfl h ax
  |pair a b=>exact agg (.pair a b) rfl rfl h ax
def K9 (P:Program) (cx:bS) (T:TypeId):Bool:=ss P cx 20 T&& !P.eqGuardType P.depth T
theorem an0 (tab:cA P cx) {T:TypeId} {i:e4} (ab:cx.ti T=some i) (h:K9 P cx T=true) (hZ:i.ty.isAgg=true):Z4 P T i.ty:=by
 simp only[K9,bB,Bool.not_eq_true']at h;obtain ⟨aa,ad⟩:=h;intro φ w x y cj fI mc nB aw bf;have he:=W9 (w:=w) tab 20 T i ab aa x y cj fI Op.maxDepth (by decide) aw bf;have yw:=aw.2;have yx:=bf.2;rw[hZ]at yw yx;obtain ⟨cs,rfl⟩:=sf yw;obtain ⟨eh,rfl⟩:=sf yx;constructor
 ·simp[eqGuard,ad,binOp,Op.equal,he]
 ·simp[eqGuard,ad,binOp,Op.equal,he]
end
def bS.plain (cx:bS):bS:={cx with tab:=cx.tab.map fun p=>(p.1,{p.2 with cmp:=false})}
def X5 (P:Program) (cx:bS):Bool:=KV P cx.plain&&cx.tab.all fun p=>DU P cx p.1 p.2&&DE P cx p.1 p.2&&(!p.2.cmp||K9 P cx.plain p.1)&&DH P p.1 p.2&&DI P p.1 p.2
theorem amQ {P:Program} {cx:bS} (h:X5 P cx=true):cA P cx:=by
 have dq: ∀(l:List (Nat×e4)) T i,bS.ti.go T l=some i->(T,i)∈l:=by
  intro l T i
  induction l with
  |nil=>intro h;simp[bS.ti.go]at h
  |cons p l aO=>
   obtain ⟨U,j⟩:=p;intro h;simp only[bS.ti.go]at h;cases ag:Nat.beq T U
   ·simp only[ag,aL]at h;exact List.mem_cons_of_mem _ (aO h)
   ·simp only[ag,aA,bs]at h;have:T=U:=by simpa using ag
    subst this h;simp
 have lT: ∀(l:List (Nat×e4)) T i,bS.ti.go T l=some i->bS.ti.go T (l.map fun p=>(p.1,{p.2 with cmp:=false}))=some {i with cmp:=false}:=by
  intro l T i
  induction l with
  |nil=>intro h;simp[bS.ti.go]at h
  |cons p l aO=>
   obtain ⟨U,j⟩:=p;intro h;simp only[bS.ti.go,List.map_cons]at h ⊢;cases ag:Nat.beq T U
   ·simp only[ag,aL]at h ⊢;exact aO h
   ·simp only[ag,aA,bs]at h ⊢;subst h;rfl
 simp only[X5,bB,List.all_eq_true]at h;obtain ⟨aa,ad⟩:=h;have tab:=aot aa;intro T i ab;have hm:=dq cx.tab T i ab;have al:=ad _ hm;simp only[Bool.or_eq_true,Bool.not_eq_true']at al;refine ⟨Wf al.1.1.1.1,UL al.1.1.1.2,fun aB _ aR=> ?_,UN al.1.2,US al.2⟩;have aE:=al.1.1.2.resolve_left (by rw[aB];simp);exact an0 (i:={i with cmp:=false}) tab (lT cx.tab T i ab) aE aR
theorem afL {x:Int} (bX: -9223372036854775808<=x) (aa:x<9223372036854775808):IntKind.i64.wrap x=x:=Li bX aa
open Go.RowKit
def Q3:List (Nat×Nat)->Nat->Nat->Bool
 |[],_,_=>false
 |(f,j)::l,ku,gY=>(Nat.beq f ku&&Nat.beq j gY)||Q3 l ku gY
def Q4 (R:bD):Shape:=⟨R.map fun p=>(p.1,.undef),[]⟩
def LA [Env] (F:ba) (fn:Func) (args:List ae) (H:List aG):DT (ae×List aG):=
 bif Nat.ble args.length fn.ntmps then
  (e0 {cx:=F.cx,Γ:=F.Γ,Λ:=fun _ _=>.fail,keep:=F.keep,m:=H.length} (fn.body.getD .skip) 0 ⟨eV 0 args,H⟩).bind fun q=>match q.1 with
   | .exit _=>.fail
   |_=>((kf F.cx q.2.regs 0 fn.results.toList).run q.2.heap q.2.heap.length .none).bind fun p=>
    ((yD (Q4 p.1) H.length p.1).run p.2.1 p.2.1.length .none).bind fun s=>
     bif decide (s.1.regs.map (·.1)=List.range' 0 fn.results.size) then .leaf (iE s.1.regs,s.1.heap) else .fail
 else .fail
def yB (f:FuncId) (g:List ae->List aG->DT (ae×List aG)) (Γ:gg):gg:=fun ku args H=>bif Nat.beq ku f then g args H else Γ ku args H
section
variable {P:Program} {H:List aG}
theorem Xk [Env] {f:FuncId} {g:List ae->List aG->DT (ae×List aG)} {Γ:gg} (h: ∀args H r aC,(g args H).val=some (r,aC)->tX P f args H r aC) (cE:bO P Γ):bO P (yB f g Γ):=by
 intro ku args H r aC e;unfold yB at e;cases ag:Nat.beq ku f
 ·rw[ag,aL]at e;exact cE ku args H r aC e
 ·rw[ag,aA]at e;have:ku=f:=by simpa using ag
  subst this;exact h args H r aC e
theorem CQ [Env] {f:FuncId} {g:List ae->List aG->DT (ae×List aG)} {Γ:gg} (aJ:hP f=false) (h: ∀args H r aC,(g args H).val=some (r,aC)->iG P f args H r aC) (cE:bO P Γ):bO P (yB f g Γ):=
 Xk (fun args H r aC e=>(h args H r aC e).x aJ) cE
theorem C2 [Env] {F:ba} (tab:cA P F.cx) (cE:bO P F.Γ) (hm:P.follows .mixedOrders=true) {f:FuncId} {fn:Func} (aJ:P.funcs[f]? =some fn) (ag:fn.body=some (bK fn)) (cJ:(fS fn.ntmps (bK fn)&& !(fn.name== "runtime.NumGoroutine")&& !eb (bK fn)&& !fe (bK fn)&&Nat.ble fn.ntmps cZ&&Nat.ble fn.results.size cZ)=true) (ao:dF (bK fn) 0=[])
  (args:List ae) (H:List aG) (r:ae) (aC:List aG) (e:(LA F fn args H).val=some (r,aC)):iG P f args H r aC:=by
 simp only[bB,Bool.not_eq_true']at cJ;obtain ⟨⟨⟨⟨⟨mB,lQ⟩,lR⟩,ia⟩,gC⟩,gO⟩:=cJ;have gC:=Nat.le_of_ble_eq_true gC;have gO:=Nat.le_of_ble_eq_true gO;unfold LA at e;cases MY:Nat.ble args.length fn.ntmps
 ·simp[MY,DT.val]at e
 rw[MY,aA]at e;obtain ⟨⟨ai,b6⟩,aa,ad⟩:=DT.val_bind_some e;have al:ai=.nrm\/ai=.ret:=by
  cases ai with
  |nrm=>exact .inl rfl
  |ret=>exact .inr rfl
  |exit i=>simp[DT.val]at ad
 have aE:(((kf F.cx b6.regs 0 fn.results.toList).run b6.heap b6.heap.length .none).bind fun p=>
    ((yD (Q4 p.1) H.length p.1).run p.2.1 p.2.1.length .none).bind fun s=>
     bif decide (s.1.regs.map (·.1)=List.range' 0 fn.results.size) then DT.leaf (iE s.1.regs,s.1.heap) else .fail).val=some (r,aC):=by
  rcases al with rfl |rfl<;>exact ad
 obtain ⟨⟨R,aZ,kK,rh⟩,bt,dn⟩:=DT.val_bind_some aE;have jd:=HM.go_run _ _ _ _ _ _ _ _ bt;obtain ⟨⟨aV,bC,wC,pp⟩,hX,nU⟩:=DT.val_bind_some dn;have apP:=HM.go_run _ _ _ _ _ _ _ _ hX;simp only at nU;cases av:decide (aV.regs.map (·.1)=List.range' 0 fn.results.size)
 ·simp[av,DT.val]at nU
 rw[av,aA]at nU;simp only[DT.val,bs,ct]at nU;obtain ⟨rfl,rfl⟩:=nU;have E2:=of_decide_eq_true av;refine ⟨⟨fn,aJ,lQ,by rw[ag];rfl⟩,?_⟩;intro φ ι w vs dy ei eG eu;refine uS aJ ag ?_;have dL:vs.size=args.length:=by
  have: ∀(l:List ae) (vs:List Value),ae.relT φ ι w l vs->vs.length=l.length:=by
   intro l
   induction l with
   |nil=>intro vs h;simp only[ae.relT]at h;simp[h]
   |cons r l aO=>intro vs h;obtain ⟨v,m,rfl,-,h⟩:=h;simp[aO m h]
  simpa using this _ _ eG
 have dh:vs.size<=fn.ntmps:=by rw[dL];exact Nat.le_of_ble_eq_true MY
 have jP:cL φ ι w ⟨fn.ntmps,w.heap.size,[],none,false⟩ ⟨eV 0 args,H⟩ {tmps:=vs++Array.replicate (fn.ntmps-vs.size) undef,defers:=[]}:=by
  refine ⟨dy,fun d r ax=> ?_,by simp;omega,gC,wd (Nat.le_refl _)⟩;obtain ⟨a1,k2,b5⟩:=mx args 0;obtain ⟨k,av,gl⟩:=ln _ 0 d r (by rw[a1,k2]) ax;have fD:d=k:=by omega
  subst fD;have bo:=b5 d (d,r) gl;simp only at bo;obtain ⟨v,aX,hL⟩:=rP eG bo;have ed:vs[d]? =some v:=by simpa using aX
  have j4:d<vs.size:=(Array.getElem?_eq_some_iff.1 ed).1;have:(vs++Array.replicate (fn.ntmps-vs.size) undef).getD d undef=v:=by
   rw[Array.getD_eq_getD_getElem?,Array.getElem?_append_left j4,ed];rfl
  rw[hk (by omega),this];exact ⟨hL,fun i ab=>eu i (rM bo i ab)⟩
 have h2:fA H.length H:=fun o an=>ei o an
 have aqd:fn.body.getD .skip=bK fn:=rfl;rw[aqd]at aa;refine l0 (F:={cx:=F.cx,Γ:=F.Γ,Λ:=fun _ _=>.fail,keep:=F.keep,m:=H.length}) tab cE hm (bK fn) 0 _ ai b6 φ ι w _ _ aa (by rw[ao];simp) mB (dW _ lR) (hc.fn ia) jP h2 fun bc w' φ' ι' cp sp bE=> ?_
 refine BA al cp sp fun w' cp sp=> ?_
 have jL:=bE.live h2;obtain ⟨bh,bZ,us,da,c4,fh,gq⟩:=tv tab fn.results.toList 0 R b6.heap _ aZ kK jd cp.heap cp.regs;have kz:R.length=us.length:=by
  have:=congrArg List.length fh;simpa [c4] using this
 have rr:k0 φ' ι' w' aZ R (fun d=>us.toArray.getD d undef):=by
  rw[bh];intro d r ax;obtain ⟨k,av,gl⟩:=ln R 0 d r (by rw[fh];congr 1;omega) ax;have fD:d=k:=by omega
  subst fD;obtain ⟨v,aX,hL,ft⟩:=gq d (d,r) gl;have:us.toArray.getD d undef=v:=by simp[Array.getD_eq_getD_getElem?,aX]
  simp only[this];exact ⟨hL,ft⟩
 obtain ⟨du,dz,c2,cr,ey,ka,oa,ac8,avB⟩:=XE (tm:=fun d=>us.toArray.getD d undef) apP rfl (by rw[bh];exact cp.heap) rr (by rw[bh];exact jL);have gj:aV.regs.length=us.toArray.size:=by
  have:=congrArg List.length E2;simp only[List.length_map,List.length_range']at this;rw[this];simp[c4]
 obtain ⟨ar,aM⟩:=sb (vs:=us.toArray) (R:=aV.regs) (by rw[E2];congr 1;simpa [c4] using gj.symm) gj cr;have kH:=tw da;refine ⟨_,kH,_,du,dz,rfl,c2,?_,?_,ar,aM⟩
 ·rw[bh]at ey;exact sp.trans ey
 ·rw[bh]at ka;have hn:=bE.trans ka;refine ⟨fun o an=> ?_,fun o an=> ?_⟩
  ·exact (hn o (fl an) an).1
  ·exact (hn o (fl an) an).2
end
open Go.RowKit
structure Y2 [Env] (F:ba) (ops:Array Oper) (st:bn) (fj:bn->Prop) (os:List Oper) (o:Oper) (T:TypeId) (x:Operand) (d:Tmp) (dC:bn) (t:aD) (xs:List t.den):Prop where
 split:ops.toList=os++[o]
 op:o.op=.binOp .eql T x (.const (.slice none 0 0)) T
 dst:o.dst=some d
 guard:o.guard=none
 run:(mO F.cx F.Γ ops os st).val=some dC
 val:gy dC.regs x=.dat (.list t) xs
 ty:F.cx.isTy T (.list t)=true
 yes:xs=[]->fj ⟨dC.regs.put d (.dat .bool true),dC.heap⟩
 no:fj ⟨dC.regs.put d (.dat .bool false),dC.heap⟩
def xi [Env] (F:ba) (c:Code) (k:Nat) (st:bn) (fj:dv->bn->Prop):Prop:= ∃e aV,(e0 F c k st).val=some (e,aV)/\fj e aV
def jr [Env] (F:ba):Code->Nat->bn->(dv->bn->Prop)->Prop
 | .seq a b,k,st,fj=>xi F (.seq a b) k st fj\/jr F a k st fun e aV=>(e=.nrm->jr F b k aV fj)/\(e≠ .nrm->fj e aV)
 | .cond c a b,k,st,fj=>xi F (.cond c a b) k st fj\/ ∃d t,c=.tmp d/\st.regs.get d=some (.dat .bool t)/\(t=true->jr F a k st fj)/\(t=false->jr F b k st fj)
 | .region id ops false,k,st,fj=>xi F (.region id ops false) k st fj\/(∃aV,(mO F.cx F.Γ ops ops.toList st).val=some aV/\fj .nrm aV)\/ ∃os o T x d dC t xs,Y2 F ops st (fj .nrm) os o T x d dC t xs
 |c,k,st,fj=>xi F c k st fj
theorem jr.det [Env] {F:ba} {c:Code} {k:Nat} {st:bn} {fj:dv->bn->Prop} (h:xi F c k st fj):jr F c k st fj:=by
 cases c with
 |region id ops draw=>cases draw<;>first |exact h |exact .inl h
 |_=>first |exact h |exact .inl h
section
variable {P:Program} {nt:hR} {φ:bw} {ι:Nat->Value} {w:World} {H:List aG}
theorem ah5 {T e:TypeId} (hu:P.underlying T=some (.slice e)) (d:Nat) (A:Option Addr) (n c:Nat) (w:World):(Op.equalIn (d+1) T (.slice A n c) (.slice none 0 0)).run P w=.ok A.isNone w:=by
 cases A<;>simp[Op.equalIn,run_underlying hu]
theorem aiH {T e:TypeId} (hu:P.underlying T=some (.slice e)) (A:Option Addr) (n c:Nat) (w:World):(Op.equal T (.slice A n c) (.slice none 0 0)).run P w=.ok A.isNone w:=ah5 hu 9999 A n c w
theorem WT [Env] {cx:bS} {Γ:gg} (tab:cA P cx) (cE:bO P Γ) {ops:Array Oper} {Q:Exit->Act->World->Prop} {rest:List Oper}: ∀(l:List Oper) (st aV:bn) (φ:bw) (ι:Nat->Value) (w:World) (a:Act),(mO cx Γ ops l st).val=some aV->cL φ ι w nt st a->l.all (nM nt.n)=true->l.any sv=false->
  (∀bc w' φ' ι',cL φ' ι' w' nt aV bc->Step φ ι w st.heap φ' ι' w' aV.heap->dA ι st.heap ι' aV.heap->wpListIn (ec nt.ro) 0 P ops Q rest bc w')->wpListIn (ec nt.ro) 0 P ops Q (l++rest) a w
 |[],st,aV,φ,ι,w,a,e,s,ax,jj,k=>by
  simp only[mO,DT.val,bs]at e;subst e;exact k a w φ ι s (Step.refl _ _ _ _) (dA.refl _ _)
 |o::l,st,aV,φ,ι,w,a,e,s,ax,jj,k=>by
  simp only[mO]at e;obtain ⟨b6,b8,aq⟩:=DT.val_bind_some e;simp only[List.all_cons,bB]at ax;simp only[List.any_cons,Bool.or_eq_false_iff]at jj;obtain ⟨⟨dC,m,p⟩,ai,bb⟩: ∃q,(om cx Γ ops o st st.heap.length).val=some q/\q.1=b6:=by
   split at b8
   ·rename_i c an;simp[sv,an]at jj
   ·obtain ⟨q,bb,bx⟩:=DT.val_bind_some b8;simp only[DT.val,bs]at bx;exact ⟨q,bb,bx⟩
  simp only at bb;subst bb;have q:=Jt (Q:=Q) tab cE ai s (KF _ _) ax.1 fun bc w' φ' ι' s1 t1 a1 cC=>
   WT tab cE l dC aV φ' ι' w' bc aq s1 ax.2 jj.2 fun a2 c0 du dz s2 t2 k2=>k a2 c0 du dz s2 (t1.trans t2) (a1.trans k2)
  rw[List.cons_append];unfold wpListIn;split
  ·rename_i h;rw[if_pos h]at q;exact q
  ·rename_i h;rw[if_neg h]at q;exact ⟨fun _ _=>trivial,q⟩
theorem akh [Env] {F:ba} (tab:cA P F.cx) (cE:bO P F.Γ) {ops:Array Oper} {st:bn} {fj:bn->Prop} {os:List Oper} {o:Oper} {T:TypeId} {x:Operand} {d:Tmp} {dC:bn} {t:aD} {xs:List t.den} (N:Y2 F ops st fj os o T x d dC t xs)
  {Q:Exit->Act->World->Prop} {a:Act} {id:Nat} (ax:ops.toList.all (nM nt.n)=true) (jj:ops.toList.any sv=false) (s:cL φ ι w nt st a)
  (k: ∀aV bc w' φ' ι',fj aV->cL φ' ι' w' nt aV bc->Step φ ι w st.heap φ' ι' w' aV.heap->dA ι st.heap ι' aV.heap->Q .normal bc w'):(Code.region id ops false).wpIn (ec nt.ro) 0 P Q a w:=by
 refine wpIn_region_list ?_;rw[N.split]at ax jj ⊢;rw[List.any_append,Bool.or_eq_false_iff]at jj;simp only[List.all_append,List.all_cons,List.all_nil,Bool.and_true,bB]at ax;refine WT tab cE os st dC φ ι w a N.run s ax.1 jj.1 fun bc w' φ' ι' s1 t1 a1=> ?_
 have aw:=(s1.eval x).1;rw[N.val]at aw;have vS:cd φ' w' (.list t) xs (bc.eval x):=aw;obtain ⟨A,m,c,aX,ao,sM,ph⟩:=cd.list vS;obtain ⟨ti,ew,dH⟩:=gh N.ty;have hu:=(jb tab ew dH).1;have hw:Region.wanted o (yielded ops bc.tmps)=true:=by simp[Region.wanted,N.guard]
 simp only[wpListIn];rw[if_pos hw];have he:(execOp bc.eval o).run P w'=.ok (.value (.bool A.isNone)) w':=by
  simp only[execOp,N.op,aX];rw[show bc.eval (.const (.slice none 0 0))=.slice none 0 0 from rfl];simp[eqGuard,binOp,aiH hu]
 have key: ∀b,A.isNone=b->fj ⟨dC.regs.put d (.dat .bool b),dC.heap⟩->Q .normal (bc.put o.dst (.bool A.isNone)) w':=by
  intro b ag aP;rw[ag];have bV:cL φ' ι' w' nt ⟨dC.regs.put d (.dat .bool b),dC.heap⟩ (bc.put o.dst (.bool b)):=by
   have mz: ∀e,o.dst=some e->e<nt.n:=fun e he=>by
    have:=ax.2;unfold nM at this;rw[he]at this;simpa using this
   have:=s1.after s1.heap (Step.refl _ _ _ _) (dA.refl _ _) mz (r:=.dat .bool b) (v:=.bool b) (gz (cd.bool.2 rfl)) (by simp[ae.ids]);rw[N.dst]at this ⊢;exact this
  exact k _ _ _ _ _ aP bV t1 a1
 refine sd (fun c aB=>by rw[N.op]at aB;cases aB) ?_;rw[he];simp only[Oper.uponIn_value];cases A with
 |none=>
  have bX:xs=[]:=List.eq_nil_of_length_eq_zero (by
   rcases ph with h |⟨b,o,cs,h,_⟩
   ·omega
   ·cases h)
  exact key true rfl (N.yes bX)
 |some agJ=>exact key false rfl N.no
theorem anh [Env] {F:ba} (tab:cA P F.cx) (cE:bO P F.Γ) (hm:P.follows .mixedOrders=true): ∀(c:Code) (k:Nat) (st:bn) (fj:dv->bn->Prop) (φ:bw) (ι:Nat->Value) (w:World) (a:Act) (Q:Exit->Act->World->Prop),jr F c k st fj->
  (∀q∈dF c k,fT P F nt.n q.1 q.2)->fS nt.n c=true->(eb c=false/\fe c=false)->cL φ ι w nt st a->fA F.m st.heap->
  (∀e aV bc w' φ' ι',fj e aV->cL φ' ι' w' nt aV bc->Step φ ι w st.heap φ' ι' w' aV.heap->gH F.m ι st.heap ι' aV.heap->Q (jt e) bc w')->c.wpIn (ec nt.ro) 0 P Q a w:=by
 intro c
 induction c with
 |seq x y hM hN=>
  intro k st fj φ ι w a Q h ao aB cv bV lm cB;simp only[jr]at h;rcases h with ⟨e,aV,aa,ad⟩|h
  ·exact l0 tab cE hm _ k st e aV φ ι w a Q aa ao aB (dW _ cv.1) (hc.no cv.1 cv.2) bV lm fun bc w' φ' ι' cp sp bE=>cB e aV bc w' φ' ι' ad cp sp bE
  simp only[fS,bB]at aB;simp only[eb,fe,Bool.or_eq_false_iff]at cv;refine wpIn_seq (hM k st _ φ ι w a _ h (fun q aN=>ao q (by simp[dF,aN])) aB.1 ⟨cv.1.1,cv.2.1⟩ bV lm fun ai b6 bc w' φ' ι' aP cp sp bE=> ?_);by_cases he:ai=.nrm
  ·subst he;exact hN k b6 fj φ' ι' w' bc Q (aP.1 rfl) (fun q aN=>ao q (by simp[dF,aN])) aB.2 ⟨cv.1.2,cv.2.2⟩ cp (bE.live lm) fun aq dC a2 c0 du dz lk iC nA ll=>cB aq dC a2 c0 du dz lk iC (sp.trans nA) (bE.trans ll)
  ·have aN:=cB ai b6 bc w' φ' ι' (aP.2 he) cp sp bE;cases ai with
   |nrm=>exact absurd rfl he
   |exit i=>exact aN
   |ret=>exact aN
 |cond c x y hM hN=>
  intro k st fj φ ι w a Q h ao aB cv bV lm cB;simp only[jr]at h;rcases h with ⟨e,aV,aa,ad⟩|h
  ·exact l0 tab cE hm _ k st e aV φ ι w a Q aa ao aB (dW _ cv.1) (hc.no cv.1 cv.2) bV lm fun bc w' φ' ι' cp sp bE=>cB e aV bc w' φ' ι' ad cp sp bE
  obtain ⟨d,t,rfl,ax,aU,aJ⟩:=h;simp only[fS,bB]at aB;simp only[eb,fe,Bool.or_eq_false_iff]at cv;have ag:=(bV.regs d _ ax).1;have cf:d≠cZ:=fun e=>by
   have ad:=cd.bool.1 ag;rw[e,oR]at ad;cases ad
  rw[hk cf]at ag;have ag:a.eval (.tmp d)=.bool t:=cd.bool.1 ag;refine wpIn_cond ag ?_;cases t
  ·exact hN k st fj φ ι w a Q (aJ rfl) (fun q aN=>ao q (by simp[dF,aN])) aB.2 ⟨cv.1.2,cv.2.2⟩ bV lm cB
  ·exact hM k st fj φ ι w a Q (aU rfl) (fun q aN=>ao q (by simp[dF,aN])) aB.1 ⟨cv.1.1,cv.2.1⟩ bV lm cB
 |region id ops draw=>
  intro k st fj φ ι w a Q h ao aB cv bV lm cB;cases draw with
  |true=>
   simp only[jr]at h;obtain ⟨e,aV,aa,ad⟩:=h;exact l0 tab cE hm _ k st e aV φ ι w a Q aa ao aB (dW _ cv.1) (hc.no cv.1 cv.2) bV lm fun bc w' φ' ι' cp sp bE=>cB e aV bc w' φ' ι' ad cp sp bE
  |false=>
   simp only[jr]at h;rcases h with ⟨e,aV,aa,ad⟩|⟨aV,aa,ad⟩|⟨os,o,T,x,d,dC,t,xs,ky⟩
   ·exact l0 tab cE hm _ k st e aV φ ι w a Q aa ao aB (dW _ cv.1) (hc.no cv.1 cv.2) bV lm fun bc w' φ' ι' cp sp bE=>cB e aV bc w' φ' ι' ad cp sp bE
   ·exact wpIn_region_list (y6 tab cE ops.toList st aV φ ι w a aa bV aB (fun h=>absurd (cv.2.symm.trans h) (by simp)) fun bc w' φ' ι' cp sp bE=>cB .nrm aV bc w' φ' ι' ad cp sp (bE.keepM _))
   ·exact akh tab cE ky aB cv.2 bV fun aV bc w' φ' ι' aP cp sp bE=>cB .nrm aV bc w' φ' ι' aP cp sp (bE.keepM _)
 |_=>
  intro k st fj φ ι w a Q h ao aB cv bV lm cB;simp only[jr]at h;obtain ⟨e,aV,aa,ad⟩:=h;exact l0 tab cE hm _ k st e aV φ ι w a Q aa ao aB (dW _ cv.1) (hc.no cv.1 cv.2) bV lm fun bc w' φ' ι' cp sp bE=>cB e aV bc w' φ' ι' ad cp sp bE
def Q5 [Env] (F:ba) (fn:Func) (Z:Shape) (z:Z.ty.den) (e:dv) (st:bn):Prop:=
 (e=.nrm\/e=.ret)/\(((kf F.cx st.regs 0 fn.results.toList).run st.heap st.heap.length .none).bind fun (R,h,_,_)=>Z.take F.m ⟨R,h⟩).val=some z
theorem ani [Env] {F:ba} (tab:cA P F.cx) (cE:bO P F.Γ) (hm:P.follows .mixedOrders=true) {f:FuncId} {fn:Func} {c:Code} {S Z:Shape} (aJ:P.funcs[f]? =some fn) (ag:fn.body=some c) (cJ:lH fn S Z=true) (dq: ∀q∈dF c 0,fT P F fn.ntmps q.1 q.2) (cv:eb c=false)
  {args:List ae} (ej:F.m=S.objs.length) {s:S.ty.den} {z:Z.ty.den} (au:S.dec ⟨eV 0 args,H⟩=some s) (e:jr F c 0 (S.enc s) (Q5 F fn Z z)):iG P f args H (iE (Z.enc z).regs) (Z.enc z).heap:=by
 have fE:=Shape.dec_enc au;simp only[lH,ag,bB,Bool.not_eq_true',db]at cJ;obtain ⟨⟨⟨⟨⟨⟨mB,ia⟩,gC⟩,gO⟩,lQ⟩,lR⟩,lS⟩:=cJ;have gC:=Nat.le_of_ble_eq_true gC;have gO:=Nat.le_of_ble_eq_true gO;have hi:args.length=S.regs.length/\H.length=S.objs.length:=by
  unfold Shape.dec at au;simp only at au;cases aR:hA S.regs (eV 0 args) with
  |none=>simp[aR]at au
  |some x=>
   cases ag:eW S.objs H with
   |none=>simp[aR,ag]at au
   |some y=>
    refine ⟨by rw[<-wU _ _ _ aR,(mx args 0).2.1],?_⟩;have: ∀(s:List dm) (R:List aG) (l:List dN),eW s R=some l->R.length=s.length:=by
     intro s
     induction s with
     |nil=>intro R l h;cases R<;>simp[eW]at h ⊢
     |cons a s aO=>
      intro R l h;cases R with
      |nil=>simp[eW]at h
      |cons b R=>
       simp only[eW]at h;split at h
       ·obtain ⟨b,ag,-⟩:=Option.map_eq_some_iff.1 h;simp[aO R b ag]
       ·cases h
    exact this _ _ _ ag
 refine ⟨⟨fn,aJ,lQ,by rw[ag];rfl⟩,?_⟩
 ·intro φ ι w vs dy ei eG eu;refine uS aJ ag ?_;have dL:vs.size=args.length:=by
   have: ∀(l:List ae) (vs:List Value),ae.relT φ ι w l vs->vs.length=l.length:=by
    intro l
    induction l with
    |nil=>intro vs h;simp only[ae.relT]at h;simp[h]
    |cons r l aO=>intro vs h;obtain ⟨v,m,rfl,-,h⟩:=h;simp[aO m h]
   simpa using this _ _ eG
  have dh:vs.size<=fn.ntmps:=by
   rw[dL,hi.1];exact Nat.le_of_ble_eq_true lR
  have jP:cL φ ι w ⟨fn.ntmps,w.heap.size,[],none,false⟩ (S.enc s) {tmps:=vs++Array.replicate (fn.ntmps-vs.size) undef,defers:=[]}:=by
   rw[fE];refine ⟨dy,fun d r ax=> ?_,by simp;omega,gC,wd (Nat.le_refl _)⟩;obtain ⟨a1,k2,b5⟩:=mx args 0;obtain ⟨k,av,gl⟩:=ln _ 0 d r (by rw[a1,k2]) ax;have fD:d=k:=by omega
   subst fD;have bo:=b5 d (d,r) gl;simp only at bo;obtain ⟨v,aX,hL⟩:=rP eG bo;have ed:vs[d]? =some v:=by simpa using aX
   have j4:d<vs.size:=(Array.getElem?_eq_some_iff.1 ed).1;have:(vs++Array.replicate (fn.ntmps-vs.size) undef).getD d undef=v:=by
    rw[Array.getD_eq_getD_getElem?,Array.getElem?_append_left j4,ed];rfl
   rw[hk (by omega),this];exact ⟨hL,fun i ab=>eu i (rM bo i ab)⟩
  have nj:(S.enc s).heap=H:=by rw[fE]
  have h2:fA F.m (S.enc s).heap:=by
   rw[nj,ej,<-hi.2];exact fun o an=>ei o an
  refine anh tab cE hm c 0 _ _ φ ι w _ _ e dq mB ⟨cv,ia⟩ jP h2 fun ai b6 bc w' φ' ι' aP cp sp bE=> ?_
  obtain ⟨al,aE⟩:=aP;rw[nj]at sp;refine BA al cp sp fun w' cp sp=> ?_
  obtain ⟨⟨R,aZ,kK,rh⟩,bt,dn⟩:=DT.val_bind_some aE;have jd:=HM.go_run _ _ _ _ _ _ _ _ bt;have jh:(Z.enc z).regs.map (·.1)=List.range' 0 fn.results.size:=by
   obtain ⟨⟨aV,bC,wC,pp⟩,a1,k2⟩:=DT.val_bind_some dn;simp only[DT.val_ofOpt]at k2;have b5:(Z.enc z).regs.map (·.1)=Z.regs.map (·.1):=by
    unfold Shape.dec at k2;cases aR:hA Z.regs aV.regs with
    |none=>simp[aR]at k2
    |some x=>
     cases ag:eW Z.objs aV.heap with
     |none=>simp[aR,ag]at k2
     |some y=>
      have:=pG _ _ x [] aR;rw[Shape.dec_enc (st:=aV) (by simp only[Shape.dec,aR,ag]at k2 ⊢;exact k2)];exact tq _ _ _ _ this
   rw[b5,lS]
  have jL:=bE.live h2;obtain ⟨bh,bZ,us,da,c4,fh,gq⟩:=tv tab fn.results.toList 0 R b6.heap _ aZ kK jd cp.heap cp.regs;have kz:R.length=us.length:=by
   have:=congrArg List.length fh;simpa [c4] using this
  have iC:cL φ' ι' w' ⟨us.toArray.size,0,[],none,false⟩ ⟨R,aZ⟩ {tmps:=us.toArray,defers:=[]}:=by
   rw[bh];refine ⟨cp.heap,fun d r ax=> ?_,rfl,by rw[List.size_toArray,c4];simpa using gO,wd (Nat.zero_le _)⟩;obtain ⟨k,av,gl⟩:=ln R 0 d r (by rw[fh];congr 1;omega) ax;have fD:d=k:=by omega
   subst fD;obtain ⟨v,aX,hL,ft⟩:=gq d (d,r) gl;have:us.toArray.getD d undef=v:=by simp[Array.getD_eq_getD_getElem?,aX]
   have j4:d<us.length:=(List.getElem?_eq_some_iff.1 aX).1;have NC:fn.results.toList.length=fn.results.size:=by simp
   rw[hk (by omega)];simp only[this];exact ⟨hL,ft⟩
  obtain ⟨du,dz,c2,cr,ey,ka,oa⟩:=j1 dn iC (by rw[bh];exact jL);have gj:(Z.enc z).regs.length=us.toArray.size:=by
   have:=congrArg List.length jh;simp only[List.length_map,List.length_range']at this;rw[this];simp[c4]
  obtain ⟨ar,aM⟩:=sb (vs:=us.toArray) (R:=(Z.enc z).regs) (by rw[jh];congr 1;simpa [c4] using gj.symm) gj (uy (a:={tmps:=us.toArray,defers:=[]}) (by rw[jh];congr 1;simpa [c4] using gj.symm) (by rw[gj,List.size_toArray,c4];simpa using gO) c2.regs);have kH:=tw da;refine ⟨_,kH,_,du,dz,rfl,c2.heap,?_,?_,ar,aM⟩
  ·rw[bh]at cr;exact sp.trans cr
  ·rw[nj]at bE;rw[bh]at ey;have hn:=bE.trans ey;refine ⟨fun o an=> ?_,fun o an=> ?_⟩
   ·have a8:o<F.m:=by rw[ej,<-hi.2];exact fl an
    exact (hn o a8 an).1
   ·have a8:o<F.m:=by rw[ej,<-hi.2];exact fl an
    exact (hn o a8 an).2
end
def DA:Code->Option (Array Oper×Array Oper×Tmp×Code×Code)
 | .seq (.region _ q7 false) (.seq (.seq (.region _ eL false) (.cond (.tmp d) A .skip)) B)=>some (q7,eL,d,A,B)
 |_=>none
def tN:List Oper->Option (List Oper×Oper)
 |[]=>none
 |[o]=>some ([],o)
 |o::l=>match tN l with
  |some (os,q)=>some (o::os,q)
  |none=>none
def Lr (y:Operand):Bool:=match y with
 | .const (.slice none 0 0)=>true
 |_=>false
def yt [Env] (F:ba) (fn:Func) (Z:Shape) (c:Code) (fv:bn) (b:Bool):DT (Z.ty.den×Nat):=match DA c with
 |some (q7,eL,d,A,B)=>(mO F.cx F.Γ q7 q7.toList fv).bind fun b6=>match tN eL.toList with
  |some (os,o)=>match o.op,o.dst,o.guard with
   | .binOp .eql T x y U,some o2,none=>bif Nat.beq d o2&&Lr y&&Nat.beq U T then
     (mO F.cx F.Γ eL os b6).bind fun dC=>match gy dC.regs x with
      | .dat (.list t) aT=>bif F.cx.isTy T (.list t) then
        (e0 F (match b with |true=>A |false=>B) 0 ⟨dC.regs.put d (.dat .bool b),dC.heap⟩).bind fun q=>match q.1 with
         | .ret=>(((kf F.cx q.2.regs 0 fn.results.toList).run q.2.heap q.2.heap.length .none).bind fun (R,h,_,_)=>Z.take F.m ⟨R,h⟩).bind fun z=>.leaf (z,aT.length)
         |_=>.fail
       else .fail
      |_=>.fail
    else .fail
   |_,_,_=>.fail
  |none=>.fail
 |none=>.fail
theorem Ud: ∀{l:List Oper} {os:List Oper} {o:Oper},tN l=some (os,o)->l=os++[o]
 |[],_,_,h=>by simp[tN]at h
 |[a],os,o,h=>by
  simp only[tN,bs,ct]at h;obtain ⟨rfl,rfl⟩:=h;rfl
 |a::b::l,os,o,h=>by
  simp only[tN]at h;split at h
  ·rename_i avD q aN;simp only[bs,ct]at h;obtain ⟨rfl,rfl⟩:=h;have:=Ud (l:=b::l) aN;rw[this];rfl
  ·cases h
theorem alM {c:Code} {q7 eL:Array Oper} {d:Tmp} {A B:Code} (h:DA c=some (q7,eL,d,A,B)): ∃i0 i1,c=.seq (.region i0 q7 false) (.seq (.seq (.region i1 eL false) (.cond (.tmp d) A .skip)) B):=by
 unfold DA at h;split at h
 ·simp only[bs,ct]at h;obtain ⟨rfl,rfl,rfl,rfl,rfl⟩:=h;exact ⟨_,_,rfl⟩
 ·cases h
theorem Zt {α:Type} {x:DT α} {a b:α} (h:x.val=some a) (g:x.val=some b):a=b:=by rw[h]at g;exact Option.some.inj g
theorem al8 [Env] {F:ba} {fn:Func} {Z:Shape} {c:Code} {fv:bn} {z BK:Z.ty.den} {n ar6:Nat} (bW:(yt F fn Z c fv true).val=some (BK,ar6)) (e6:(yt F fn Z c fv false).val=some (z,n)) (bX:n=0->BK=z):jr F c 0 fv (Q5 F fn Z z):=by
 unfold yt at bW e6;cases aB:DA c with
 |none=>rw[aB]at e6;simp[DT.val]at e6
 |some q=>
  obtain ⟨q7,eL,d,A,B⟩:=q;rw[aB]at bW e6;obtain ⟨i0,i1,rfl⟩:=alM aB;simp only at bW e6;obtain ⟨b6,ai,e6⟩:=DT.val_bind_some e6;obtain ⟨rA,fy,bW⟩:=DT.val_bind_some bW;obtain rfl:=Zt ai fy;clear fy;cases au:tN eL.toList with
  |none=>rw[au]at e6;simp[DT.val]at e6
  |some q=>
   obtain ⟨os,o⟩:=q;rw[au]at bW e6;simp only at bW e6;split at e6
   case h_2=>simp[DT.val]at e6
   rename_i T x y U o2 an ax bH;rw[an,ax,bH]at bW;simp only at bW;cases ag:Nat.beq d o2&&Lr y&&Nat.beq U T
   ·rw[ag]at e6;simp[DT.val]at e6
   rw[ag,aA]at bW e6;simp only[bB,Nat.beq_eq]at ag;obtain ⟨⟨rfl,bf⟩,rfl⟩:=ag;obtain rfl:y=.const (.slice none 0 0):=by
    unfold Lr at bf;split at bf
    ·rfl
    ·cases bf
   obtain ⟨dC,aq,e6⟩:=DT.val_bind_some e6;obtain ⟨OQ,k6,bW⟩:=DT.val_bind_some bW;obtain rfl:=Zt aq k6;clear k6;split at e6
   case h_2=>simp[DT.val]at e6
   rename_i t aT aw;rw[aw]at bW;simp only at bW;cases dH:F.cx.isTy U (.list t)
   ·rw[dH]at e6;simp[DT.val]at e6
   rw[dH,aA]at bW e6;obtain ⟨⟨ZY,rB⟩,f1,e6⟩:=DT.val_bind_some e6;obtain ⟨⟨Z1,atQ⟩,t1,bW⟩:=DT.val_bind_some bW;simp only at f1 t1 e6 bW;have atg:ZY=.ret:=by cases ZY<;>first |rfl |simp[DT.val]at e6
   have atj:Z1=.ret:=by cases Z1<;>first |rfl |simp[DT.val]at bW
   subst atg atj;obtain ⟨kS,f2,e6⟩:=DT.val_bind_some e6;obtain ⟨z2,t2,bW⟩:=DT.val_bind_some bW;simp only[DT.val,bs,ct]at e6 bW;obtain ⟨rfl,rfl⟩:=e6;obtain ⟨rfl,rfl⟩:=bW;have aa9: ∀b,(dC.regs.put d (.dat .bool b)).get d=some (.dat .bool b):=fun b=>by rw[bD.get_put,if_pos rfl]
   refine .inr (.inr (.inl ⟨b6,ai,fun _=> ?_,fun h=>absurd rfl h⟩));refine .inr (.inr (.inr (.inr ⟨os,o,U,x,d,dC,t,aT,⟨Ud au,an,ax,bH,aq,aw,dH,fun NY=>⟨fun _=> ?_,fun h=>absurd rfl h⟩,⟨fun _=> ?_,fun h=>absurd rfl h⟩⟩⟩)))
   ·have bz:=bX (by rw[NY];rfl);subst bz;exact .inr ⟨d,true,rfl,aa9 true,fun _=>jr.det ⟨.ret,atQ,t1,fun h=>(by cases h),fun _=>⟨.inr rfl,t2⟩⟩,fun h=>by cases h⟩
   ·exact .inr ⟨d,false,rfl,aa9 false,fun h=>(by cases h),fun _=>jr.det ⟨.nrm,_,rfl,fun _=>jr.det ⟨.ret,rB,f1,.inr rfl,f2⟩,fun h=>absurd rfl h⟩⟩
theorem Yc [Env] {P:Program} {F:ba} (tab:cA P F.cx) (cE:bO P F.Γ) (hm:P.follows .mixedOrders=true) {E:aS} {fn:Func} (aJ:P.funcs[E.f]? =some fn) (ag:fn.body=some (bK fn)) (cJ:lH fn E.S E.Z=true) (ao:dF (bK fn) 0=[]) (cv:eb (bK fn)=false)
  (ej:F.m=E.S.objs.length) (room:E.S.ty.den->Bool) (out BK:E.S.ty.den->E.Z.ty.den) (n:E.S.ty.den->Nat) (bH: ∀s,E.g s=bif room s then some (out s) else none) (e6: ∀s,(yt F fn E.Z (bK fn) (E.S.enc s) false).val=bif room s then some (out s,n s) else none)
  (bW: ∀s,(yt F fn E.Z (bK fn) (E.S.enc s) true).val=some (BK s,n s)) (bX: ∀s,n s=0->BK s=out s):ck P E:=by
 intro args H s z au bz;rw[bH]at bz;cases az:room s
 ·rw[az]at bz;cases bz
 ·rw[az,aA]at bz;obtain rfl:=Option.some.inj bz;have aan:=e6 s;rw[az,aA]at aan;exact ani tab cE hm aJ ag cJ (by rw[ao];simp) cv ej au (al8 (bW s) aan (bX s))
open Go.RowKit
abbrev ko (cx:bS) (Γ:gg) (Λ:Nat->bn->DT (dv×bn)) (m:Nat):ba:={cx:=cx,Γ:=Γ,Λ:=Λ,keep:=fun _=>none,m:=m}
def Cs [Env] (cx:bS) (Γ:gg) (f:FuncId) (fn:Func) (Δ:gg):gg:=yB f (LA (ko cx Γ (fun _ _=>.fail) 0) fn) Δ
section
variable {P:Program}
theorem uz [Env] {F:ba} {nt k:Nat} {c:Code} (h: ∀st,F.Λ k st=.fail):fT P F nt k c:=fun _ st e aV φ ι w a Q _ _ aX=>by rw[h]at aX;cases aX
theorem Dl [Env] {f:FuncId} {S Z:Shape}:ck P ⟨f,S,Z,fun _=>none⟩:=fun _ _ _ _ _ h=>by cases h
theorem uD: ∀(k:Nat) (l m:List ae),eV k l=eV k m->l=m
 |_,[],[],_=>rfl
 |_,[],_::_,h=>by simp[eV]at h
 |_,_::_,[],h=>by simp[eV]at h
 |k,a::l,b::m,h=>by
  simp only[eV,List.cons.injEq,ct,true_and]at h;rw[h.1,uD (k+1) l m h.2]
theorem afh [Env] {f:FuncId} {fn:Func} (aJ:P.funcs[f]? =some fn) (cJ:(!(fn.name== "runtime.NumGoroutine")&& !fn.body.isNone)=true) {g:List UInt8->List UInt8->Int}
  (h: ∀(a b:ByteArray) (w:World),Calls P f #[.string a,.string b] w fun e w'=>e=.returned (.int .i64 (g a.data.toList b.data.toList))/\w'=w):
  ck P ⟨f,⟨[(0,.dat .str),(1,.dat .str)],[]⟩,⟨[(0,.dat (.int .i64))],[]⟩,fun s=>some (g s.1 s.2.1,())⟩:=by
 intro args H s z au bz;have fE:=Shape.dec_enc au;obtain rfl:=Option.some.inj bz;obtain ⟨a,b,u⟩:=s;have hY:(Shape.enc ⟨[(0,.dat .str),(1,.dat .str)],[]⟩ (a,b,u))=⟨[(0,.dat .str a),(1,.dat .str b)],[]⟩:=rfl;have fE:=hY.symm.trans fE;injection fE with aa ad
 obtain rfl:args=[.dat .str a,.dat .str b]:=(uD 0 [.dat .str a,.dat .str b] args aa).symm;subst ad;simp only[bB,Bool.not_eq_true']at cJ;refine ⟨⟨fn,aJ,cJ.1,cJ.2⟩,fun φ ι w vs dy ei eG eu=> ?_⟩;obtain ⟨v1,c2,ai,ar,v2,cr,aq,aM,hm⟩:=eG;simp only[ae.relT]at hm;subst hm aq;have fy:v1=.string ⟨⟨a⟩⟩:=cd.str.1 ar;have k6:v2=.string ⟨⟨b⟩⟩:=cd.str.1 aM;subst fy k6;obtain rfl:vs= #[.string ⟨⟨a⟩⟩,.string ⟨⟨b⟩⟩]:=by cases vs;simp at ai;simp[ai]
 refine (h ⟨⟨a⟩⟩ ⟨⟨b⟩⟩ w).mono ?_;rintro e w' ⟨rfl,rfl⟩;exact ⟨_,φ,ι,rfl,dy,Step.refl _ _ _ _,dA.refl _ _,gz (cd.int.2 rfl),fun i ab=>absurd (show i∈([]:List Nat) from ab) (by simp)⟩
theorem afg [Env] {f:FuncId} {fn:Func} (aJ:P.funcs[f]? =some fn) (cJ:(!(fn.name== "runtime.NumGoroutine")&& !fn.body.isNone)=true) {g:List UInt8->Int->Int}
  (h: ∀(a:ByteArray) (c:Int) (w:World),Calls P f #[.string a,.int .u8 c] w fun e w'=>e=.returned (.int .i64 (g a.data.toList c))/\w'=w):
  ck P ⟨f,⟨[(0,.dat .str),(1,.dat (.int .u8))],[]⟩,⟨[(0,.dat (.int .i64))],[]⟩,fun s=>some (g s.1 s.2.1,())⟩:=by
 intro args H s z au bz;have fE:=Shape.dec_enc au;obtain rfl:=Option.some.inj bz;obtain ⟨a,b,u⟩:=s;have hY:(Shape.enc ⟨[(0,.dat .str),(1,.dat (.int .u8))],[]⟩ (a,b,u))=⟨[(0,.dat .str a),(1,.dat (.int .u8) b)],[]⟩:=rfl;have fE:=hY.symm.trans fE;injection fE with aa ad
 obtain rfl:args=[.dat .str a,.dat (.int .u8) b]:=(uD 0 [.dat .str a,.dat (.int .u8) b] args aa).symm;subst ad;simp only[bB,Bool.not_eq_true']at cJ;refine ⟨⟨fn,aJ,cJ.1,cJ.2⟩,fun φ ι w vs dy ei eG eu=> ?_⟩;obtain ⟨v1,c2,ai,ar,v2,cr,aq,aM,hm⟩:=eG;simp only[ae.relT]at hm;subst hm aq;have fy:v1=.string ⟨⟨a⟩⟩:=cd.str.1 ar;have k6:v2=.int .u8 b:=cd.int.1 aM;subst fy k6;obtain rfl:vs= #[.string ⟨⟨a⟩⟩,.int .u8 b]:=by cases vs;simp at ai;simp[ai]
 refine (h ⟨⟨a⟩⟩ b w).mono ?_;rintro e w' ⟨rfl,rfl⟩;exact ⟨_,φ,ι,rfl,dy,Step.refl _ _ _ _,dA.refl _ _,gz (cd.int.2 rfl),fun i ab=>absurd (show i∈([]:List Nat) from ab) (by simp)⟩
end
open Go.RowKit
abbrev jU:=List (Nat×(bn->DT (dv×bn)))
def DZ:jU->Option Nat->Option (bn->DT (dv×bn))
 |_,none=>none
 |[],some _=>none
 |(j,g)::l,some i=>bif Nat.beq i j then some g else DZ l (some i)
def fo [Env] (F:ba) (C:jU):Code->Nat->bn->DT (dv×bn)
 | .seq a b,k,st=>(fo F C a k st).bind fun (e,aV)=>match e with
  | .nrm=>match DZ C (nK b) with
   |some g=>g aV
   |none=>fo F C b k aV
  |e=>.leaf (e,aV)
 | .cond c a b,k,st=>match kL (gy st.regs c) with
  |some t=>match c with
   | .tmp d=>.br t (fo F C a k ⟨refine st.regs d true,st.heap⟩) (fo F C b k ⟨refine st.regs d false,st.heap⟩)
   |_=>.br t (fo F C a k st) (fo F C b k st)
  |none=>.fail
 | .block id c,_,st=>(fo F C c id st).bind fun (e,aV)=>match e with
  | .exit i=>bif Nat.beq i id then .leaf (.nrm,aV) else .leaf (.exit i,aV)
  |e=>.leaf (e,aV)
 | .scope c,k,st=>fo F C c k st
 |c,k,st=>e0 F c k st
def ib (C:jU):Code->List ((bn->DT (dv×bn))×Code)
 | .seq a b=>ib C a++(match DZ C (nK b) with |some g=>[(g,b)] |none=>ib C b)
 | .cond _ a b=>ib C a++ib C b
 | .block _ c=>ib C c
 | .scope c=>ib C c
 |_=>[]
def oQ (i:Nat):Code->Option Code
 | .seq a b=>match oQ i a with
  |some c=>some c
  |none=>match nK b with
   |some j=>bif Nat.beq i j then some b else oQ i b
   |none=>oQ i b
 | .cond _ a b=>match oQ i a with |some c=>some c |none=>oQ i b
 | .block _ c=>oQ i c
 | .loop c=>oQ i c
 | .scope c=>oQ i c
 |_=>none
def dZ (c:Code) (i:Nat):Code:=(oQ i c).getD .skip
def h6 [Env] (P:Program) (F:ba) (n:Nat) (g:bn->DT (dv×bn)) (c:Code):Prop:=
 ∀(nt:hR) (st:bn) (e:dv) (aV:bn) (φ:bw) (ι:Nat->Value) (w:World) (a:Act) (Q:Exit->Act->World->Prop),nt.n=n->hc nt c->(g st).val=some (e,aV)->cL φ ι w nt st a->fA F.m st.heap->
  (∀bc w' φ' ι',cL φ' ι' w' nt aV bc->Step φ ι w st.heap φ' ι' w' aV.heap->gH F.m ι st.heap ι' aV.heap->Q (jt e) bc w')->c.wpIn (ec nt.ro) 0 P Q a w
def yj [Env] (P:Program) (F:ba) (nt:Nat):List ((bn->DT (dv×bn))×Code)->Prop
 |[]=>True
 |q::l=>h6 P F nt q.1 q.2/\yj P F nt l
theorem KN [Env] {P:Program} {F:ba} {nt:Nat} {C:jU} {c:Code} {m:List ((bn->DT (dv×bn))×Code)} (hm:ib C c=m) (h:yj P F nt m): ∀q∈ib C c,h6 P F nt q.1 q.2:=by
 rw[hm];clear hm
 induction m with
 |nil=>intro q aN;cases aN
 |cons p l aO=>
  intro q aN;rcases List.mem_cons.1 aN with rfl |aN
  ·exact h.1
  ·exact aO h.2 q aN
section
variable {P:Program} {nt:hR} {F:ba} {C:jU}
theorem Kf [Env] (tab:cA P F.cx) (cE:bO P F.Γ) (hm:P.follows .mixedOrders=true): ∀(c:Code) (k:Nat) (st:bn) (e:dv) (aV:bn) (φ:bw) (ι:Nat->Value) (w:World) (a:Act) (Q:Exit->Act->World->Prop),(fo F C c k st).val=some (e,aV)->
  (∀q∈dF c k,fT P F nt.n q.1 q.2)->(∀q∈ib C c,h6 P F nt.n q.1 q.2)->fS nt.n c=true->h8 P F nt.n c->hc nt c->cL φ ι w nt st a->fA F.m st.heap->
  (∀bc w' φ' ι',cL φ' ι' w' nt aV bc->Step φ ι w st.heap φ' ι' w' aV.heap->gH F.m ι st.heap ι' aV.heap->Q (jt e) bc w')->c.wpIn (ec nt.ro) 0 P Q a w:=by
 intro c
 induction c with
 |seq x y hM hN=>
  intro k st e aV φ ι w a Q h ao dg aB cv bY bV lm cB;simp only[fo]at h;obtain ⟨⟨ai,b6⟩,aa,ad⟩:=DT.val_bind_some h;simp only[fS,bB]at aB;refine wpIn_seq (hM k st ai b6 φ ι w a _ aa (fun q aN=>ao q (by simp[dF,aN])) (fun q aN=>dg q (by simp[ib,aN])) aB.1 cv.1 (bY.of (fun h=>by simp[eb,h]) (fun h=>by simp[fe,h])) bV lm fun bc w' φ' ι' cp sp bE=> ?_);cases ai with
  |nrm=>
   simp only at ad;cases bH:DZ C (nK y) with
   |some g=>
    rw[bH]at ad;exact dg (g,y) (by simp[ib,bH]) nt b6 e aV φ' ι' w' bc Q rfl (bY.of (fun h=>by simp[eb,h]) (fun h=>by simp[fe,h])) ad cp (bE.live lm) fun a2 c0 du dz iC nA ll=>cB a2 c0 du dz iC (sp.trans nA) (bE.trans ll)
   |none=>
    rw[bH]at ad;exact hN k b6 e aV φ' ι' w' bc Q ad (fun q aN=>ao q (by simp[dF,aN])) (fun q aN=>dg q (by simp[ib,bH,aN])) aB.2 cv.2 (bY.of (fun h=>by simp[eb,h]) (fun h=>by simp[fe,h])) cp (bE.live lm) fun a2 c0 du dz iC nA ll=>cB a2 c0 du dz iC (sp.trans nA) (bE.trans ll)
  |exit i=>
   simp only[DT.val,bs,ct]at ad;obtain ⟨rfl,rfl⟩:=ad;exact cB bc w' φ' ι' cp sp bE
  |ret=>
   simp only[DT.val,bs,ct]at ad;obtain ⟨rfl,rfl⟩:=ad;exact cB bc w' φ' ι' cp sp bE
 |cond c x y hM hN=>
  intro k st e aV φ ι w a Q h ao dg aB cv bY bV lm cB;simp only[fo]at h;simp only[fS,bB]at aB;split at h
  ·rename_i t aU;have aX:=JC aU (bV.eval c).1;refine wpIn_cond aX ?_;have key: ∀(fv:bn),cL φ ι w nt fv a->fv.heap=st.heap->(bif t then (fo F C x k fv).val else (fo F C y k fv).val)=some (e,aV)->(if t then x else y).wpIn (ec nt.ro) 0 P Q a w:=by
    intro fv ic bC h;rw[<-bC]at lm cB;cases t
    ·simp only[aL]at h;simp only[Bool.false_eq_true,if_false];exact hN k fv e aV φ ι w a Q h (fun q aN=>ao q (by simp[dF,aN])) (fun q aN=>dg q (by simp[ib,aN])) aB.2 cv.2 (bY.of (fun h=>by simp[eb,h]) (fun h=>by simp[fe,h])) ic lm cB
    ·simp only[aA]at h;simp only[if_true];exact hM k fv e aV φ ι w a Q h (fun q aN=>ao q (by simp[dF,aN])) (fun q aN=>dg q (by simp[ib,aN])) aB.1 cv.1 (bY.of (fun h=>by simp[eb,h]) (fun h=>by simp[fe,h])) ic lm cB
   split at h
   ·rename_i d;have bo:st.regs.get d=some (.dat .bool t):=by
     simp only[gy]at aU;cases pc:Nat.beq d cZ with
     |true=>simp[pc,kL]at aU
     |false=>
     simp only[pc,aL]at aU;cases ax:st.regs.get d with
     |none=>rw[ax]at aU;simp[kL]at aU
     |some r=>
      rw[ax]at aU;have:=BO (R:=st.regs) (d:=d) (b:=t) (by rw[ax];exact aU);rw[ax]at this;exact this
    have ic:cL φ ι w nt ⟨refine st.regs d t,st.heap⟩ a:=bV.regs_eq (rl bo);refine key ⟨refine st.regs d t,st.heap⟩ ic rfl ?_;cases t
    ·simp only[DT.val,aL]at h ⊢;exact h
    ·simp only[DT.val,aA]at h ⊢;exact h
   ·exact key st bV rfl (by simpa only[DT.val] using h)
  ·simp[DT.val]at h
 |block id c aO=>
  intro k st e aV φ ι w a Q h ao dg aB cv bY bV lm cB;simp only[fo]at h;obtain ⟨⟨ai,b6⟩,aa,ad⟩:=DT.val_bind_some h;refine wpIn_block (aO id st ai b6 φ ι w a _ aa (fun q aN=>ao q (by simpa [dF] using aN)) (fun q aN=>dg q (by simpa [ib] using aN)) aB cv (bY.of (fun h=>by simpa [eb] using h) (fun h=>by simpa [fe] using h)) bV lm fun bc w' φ' ι' cp sp bE=> ?_);cases ai with
  |nrm=>
   simp only[DT.val,bs,ct]at ad;obtain ⟨rfl,rfl⟩:=ad;exact cB bc w' φ' ι' cp sp bE
  |exit i=>
   simp only at ad;cases ag:Nat.beq i id
   ·simp only[ag,aL,DT.val,bs,ct]at ad;obtain ⟨rfl,rfl⟩:=ad;have cf: ¬i=id:=fun h=>by subst h;simp at ag
    simp only[jt,Exit.inBlock,if_neg cf];exact cB bc w' φ' ι' cp sp bE
   ·simp only[ag,aA,DT.val,bs,ct]at ad;obtain ⟨rfl,rfl⟩:=ad;have:i=id:=by simpa using ag
    simp only[jt,Exit.inBlock,if_pos this];exact cB bc w' φ' ι' cp sp bE
  |ret=>
   simp only[DT.val,bs,ct]at ad;obtain ⟨rfl,rfl⟩:=ad;exact cB bc w' φ' ι' cp sp bE
 |scope c aO=>
  intro k st e aV φ ι w a Q h ao dg aB cv bY bV lm cB;simp only[fo]at h;refine W6 (aO k st e aV φ ι w a _ h (fun q aN=>ao q (by simpa [dF] using aN)) (fun q aN=>dg q (by simpa [ib] using aN)) aB cv (bY.of (fun h=>by simpa [eb] using h) (fun h=>by simpa [fe] using h)) bV lm fun bc w' φ' ι' cp sp bE=> ?_);have:=cB bc w' φ' ι' cp sp bE;cases e<;>exact this
 |_=>
  intro k st e aV φ ι w a Q h ao dg aB cv bY bV lm cB;exact l0 tab cE hm _ k st e aV φ ι w a Q (by simpa only[fo] using h) ao aB cv bY bV lm cB
theorem j7 [Env] {n:Nat} (tab:cA P F.cx) (cE:bO P F.Γ) (hm:P.follows .mixedOrders=true) {L:bA} {c:Code} {k:Nat} {f:L.S.ty.den->Option L.Out} {l:List (Nat×Code)} {m:List ((bn->DT (dv×bn))×Code)} (ao:dF c k=l) (dq:mT P F n l) (dg:ib C c=m) (pb:yj P F n m) (aB:fS n c=true) (cv:h8 P F n c)
  (aJ: ∀s,((fo F C c k (L.S.enc s)).bind fun (e,st)=>L.out F.m e st).val=f s):h6 P F n (L.go f F.m) c:=by
 intro nt st e aV φ ι w a Q aQ bY h bV lm cB;subst aQ;unfold bA.go at h;obtain ⟨s,ai,aq⟩:=DT.val_bind_some h;obtain ⟨cU,ep,a1,k2,b5,dD,fZ⟩:=j1 ai bV lm;obtain ⟨o,an,he⟩: ∃o,f s=some o/\(e,aV)=L.fin o:=by
  cases iv:f s with
  |none=>simp[iv,DT.val]at aq
  |some o=>
   refine ⟨o,rfl,?_⟩;cases o with
   |inl x=>simp only[iv,DT.val,bs]at aq;exact aq.symm
   |inr y=>simp only[iv,DT.val,bs]at aq;exact aq.symm
 have ag:=(aJ s).trans an;obtain ⟨⟨bb,wP⟩,aa,ad⟩:=DT.val_bind_some ag;refine Kf tab cE hm c k _ bb wP cU ep w a _ aa (tO ao dq) (KN dg pb) aB cv bY a1 (b5.live lm) fun bc w' φ' ι' cp sp bE=> ?_
 obtain ⟨kD,du,dz,c2,cr,ey⟩:=bA.out_sound ad cp (bE.live (b5.live lm));have qO:e=(L.fin o).1/\aV=(L.fin o).2:=by rw[<-he];exact ⟨rfl,rfl⟩
 rw[kD];have:=cB bc w' du dz;rw[qO.1,qO.2]at this;exact this c2 ((k2.trans sp).trans cr) ((b5.trans bE).trans ey)
end
open Go.RowKit
def ql [Env] (F:ba) (C:jU) (fn:Func) (S Z:Shape) (s:S.ty.den):DT Z.ty.den:=
 (fo F C (fn.body.getD .skip) 0 (S.enc s)).bind fun (e,st)=>match e with
  | .exit _=>.fail
  |_=>((kf F.cx st.regs 0 fn.results.toList).run st.heap st.heap.length .none).bind fun (R,h,_,_)=>Z.take F.m ⟨R,h⟩
def bA.bodyK [Env] (L:bA) (F:ba) (C:jU) (c:Code) (k:Nat) (s:L.S.ty.den):DT (L.S.ty.den⊕L.Out):=
 (fo F C c k (L.S.enc s)).bind fun (e,st)=>match e with
  | .nrm=>(L.S.take F.m st).bind fun s=>.leaf (.inl s)
  |e=>(L.out F.m e st).bind fun o=>.leaf (.inr o)
section
variable {P:Program} {cx:bS} {Γ:gg} {φ:bw} {ι:Nat->Value} {w:World} {nt:hR} {st aV:bn} {a:Act} {H:List aG}
theorem al3 [Env] {F:ba} {C:jU} (tab:cA P F.cx) (cE:bO P F.Γ) (hm:P.follows .mixedOrders=true) {L:bA} {c:Code} {k:Nat} {f:L.S.ty.den->Option L.Out} (lY:F.Λ k=L.go f F.m) {n:Nat} (dq: ∀q∈dF c k,fT P F n q.1 q.2) (pb: ∀q∈ib C c,h6 P F n q.1 q.2) (aB:fS n c=true) (cv:h8 P F n c)
  (aJ: ∀s o,f s=some o-> ∃n,dR (fun s=>(L.bodyK F C c k s).val) n s=some o):fT P F n k c:=by
 intro nt st e aV φ ι w a Q aQ bY h bV lm cB;subst aQ;rw[lY]at h;unfold bA.go at h;obtain ⟨s,ai,aq⟩:=DT.val_bind_some h;obtain ⟨cU,ep,a1,k2,b5,dD,fZ⟩:=j1 ai bV lm;obtain ⟨o,an,he⟩: ∃o,f s=some o/\(e,aV)=L.fin o:=by
  cases iv:f s with
  |none=>simp[iv,DT.val]at aq
  |some o=>
   refine ⟨o,rfl,?_⟩;cases o with
   |inl x=>simp only[iv,DT.val,bs]at aq;exact aq.symm
   |inr y=>simp only[iv,DT.val,bs]at aq;exact aq.symm
 obtain ⟨n,aQ⟩:=aJ s o an;refine wpIn_loop_rounds n ?_;have key: ∀n s φ ι w a,dR (fun s=>(L.bodyK F C c k s).val) n s=some o->cL φ ι w nt (L.S.enc s) a->fA F.m (L.S.enc s).heap->
   (∀bc w' φ' ι',cL φ' ι' w' nt (L.fin o).2 bc->Step φ ι w (L.S.enc s).heap φ' ι' w' (L.fin o).2.heap->gH F.m ι (L.S.enc s).heap ι' (L.fin o).2.heap->Q (jt (L.fin o).1) bc w')->Code.roundsIn (ec nt.ro) 0 P c Q n a w:=by
  intro n
  induction n with
  |zero=>intro s φ ι w a h;cases h
  |succ n aO=>
   intro s φ ι w a h bV lm cB;simp only[dR]at h;rw[roundsIn_succ];cases ag:(L.bodyK F C c k s).val with
   |none=>simp[ag]at h
   |some r=>
    simp only[ag]at h;have gA:=ag;unfold bA.bodyK at gA;obtain ⟨⟨ai,b6⟩,aa,ad⟩:=DT.val_bind_some gA;refine Kf tab cE hm c k _ ai b6 φ ι w a _ aa dq pb aB cv (bY.of (fun h=>h) (fun h=>h)) bV lm fun bc w' φ' ι' cp sp bE=> ?_
    by_cases ld:ai=.nrm
    ·subst ld;obtain ⟨t,al,aE⟩:=DT.val_bind_some ad;simp only[DT.val,bs]at aE;subst aE;simp only at h;obtain ⟨du,dz,c2,cr,ey,ka,oa⟩:=j1 al cp (bE.live lm);exact aO t du dz w' bc h c2 (ey.live (bE.live lm)) fun a2 c0 kU kT A0 OO Oh=>cB a2 c0 kU kT A0 ((sp.trans cr).trans OO) ((bE.trans ey).trans Oh)
    ·rw[XK ld];have aZ:((L.out F.m ai b6).bind fun o=>DT.leaf (Sum.inr (α:=L.S.ty.den) o)).val=some r:=by
      cases ai with
      |nrm=>exact absurd rfl ld
      |exit i=>exact ad
      |ret=>exact ad
     obtain ⟨h4,al,aE⟩:=DT.val_bind_some aZ;simp only[DT.val,bs]at aE;subst aE;simp only[bs]at h;subst h;obtain ⟨kD,du,dz,c2,cr,ey⟩:=bA.out_sound al cp (bE.live lm);rw[kD];exact cB bc w' du dz c2 (sp.trans cr) (bE.trans ey)
 have qO:e=(L.fin o).1/\aV=(L.fin o).2:=by rw[<-he];exact ⟨rfl,rfl⟩
 refine key n s cU ep w a aQ a1 (b5.live lm) fun bc w' φ' ι' cp sp bE=> ?_
 have:=cB bc w' φ' ι';rw[qO.1,qO.2]at this;exact this cp (k2.trans sp) (b5.trans bE)
theorem ank [Env] {F:ba} {C:jU} (tab:cA P F.cx) (cE:bO P F.Γ) (hm:P.follows .mixedOrders=true) {f:FuncId} {fn:Func} {c:Code} {S Z:Shape} (aJ:P.funcs[f]? =some fn) (ag:fn.body=some c) (cJ:lH fn S Z=true) (dq: ∀q∈dF c 0,fT P F fn.ntmps q.1 q.2) (pb: ∀q∈ib C c,h6 P F fn.ntmps q.1 q.2) (cv:h8 P F fn.ntmps c)
  {args:List ae} (ej:F.m=S.objs.length) {s:S.ty.den} {z:Z.ty.den} (au:S.dec ⟨eV 0 args,H⟩=some s) (e:(ql F C fn S Z s).val=some z):iG P f args H (iE (Z.enc z).regs) (Z.enc z).heap:=by
 have fE:=Shape.dec_enc au;simp only[lH,ag,bB,Bool.not_eq_true',db]at cJ;obtain ⟨⟨⟨⟨⟨⟨mB,ia⟩,gC⟩,gO⟩,lQ⟩,lR⟩,lS⟩:=cJ;have gC:=Nat.le_of_ble_eq_true gC;have gO:=Nat.le_of_ble_eq_true gO;have hi:args.length=S.regs.length/\H.length=S.objs.length:=by
  unfold Shape.dec at au;simp only at au;cases aR:hA S.regs (eV 0 args) with
  |none=>simp[aR]at au
  |some x=>
   cases ag:eW S.objs H with
   |none=>simp[aR,ag]at au
   |some y=>
    refine ⟨by rw[<-wU _ _ _ aR,(mx args 0).2.1],?_⟩;have: ∀(s:List dm) (R:List aG) (l:List dN),eW s R=some l->R.length=s.length:=by
     intro s
     induction s with
     |nil=>intro R l h;cases R<;>simp[eW]at h ⊢
     |cons a s aO=>
      intro R l h;cases R with
      |nil=>simp[eW]at h
      |cons b R=>
       simp only[eW]at h;split at h
       ·obtain ⟨b,ag,-⟩:=Option.map_eq_some_iff.1 h;simp[aO R b ag]
       ·cases h
    exact this _ _ _ ag
 unfold ql at e;rw[ag]at e;simp only[Option.getD_some]at e;obtain ⟨⟨ai,b6⟩,aa,ad⟩:=DT.val_bind_some e;have al:ai=.nrm\/ai=.ret:=by
  cases ai with
  |nrm=>exact .inl rfl
  |ret=>exact .inr rfl
  |exit i=>simp[DT.val]at ad
 have aE:(((kf F.cx b6.regs 0 fn.results.toList).run b6.heap b6.heap.length .none).bind fun (R,h,_,_)=>Z.take F.m ⟨R,h⟩).val=some z:=by
  rcases al with rfl |rfl<;>exact ad
 obtain ⟨⟨R,aZ,kK,rh⟩,bt,dn⟩:=DT.val_bind_some aE;have jd:=HM.go_run _ _ _ _ _ _ _ _ bt;have jh:(Z.enc z).regs.map (·.1)=List.range' 0 fn.results.size:=by
  obtain ⟨⟨aV,bC,wC,pp⟩,a1,k2⟩:=DT.val_bind_some dn;simp only[DT.val_ofOpt]at k2;have b5:(Z.enc z).regs.map (·.1)=Z.regs.map (·.1):=by
   unfold Shape.dec at k2;cases aR:hA Z.regs aV.regs with
   |none=>simp[aR]at k2
   |some x=>
    cases ag:eW Z.objs aV.heap with
    |none=>simp[aR,ag]at k2
    |some y=>
     have:=pG _ _ x [] aR;rw[Shape.dec_enc (st:=aV) (by simp only[Shape.dec,aR,ag]at k2 ⊢;exact k2)];exact tq _ _ _ _ this
  rw[b5,lS]
 refine ⟨⟨fn,aJ,lQ,by rw[ag];rfl⟩,?_⟩
 ·intro φ ι w vs dy ei eG eu;refine uS aJ ag ?_;have dL:vs.size=args.length:=by
   have: ∀(l:List ae) (vs:List Value),ae.relT φ ι w l vs->vs.length=l.length:=by
    intro l
    induction l with
    |nil=>intro vs h;simp only[ae.relT]at h;simp[h]
    |cons r l aO=>intro vs h;obtain ⟨v,m,rfl,-,h⟩:=h;simp[aO m h]
   simpa using this _ _ eG
  have dh:vs.size<=fn.ntmps:=by
   rw[dL,hi.1];exact Nat.le_of_ble_eq_true lR
  have jP:cL φ ι w ⟨fn.ntmps,w.heap.size,[],none,false⟩ (S.enc s) {tmps:=vs++Array.replicate (fn.ntmps-vs.size) undef,defers:=[]}:=by
   rw[fE];refine ⟨dy,fun d r ax=> ?_,by simp;omega,gC,wd (Nat.le_refl _)⟩;obtain ⟨a1,k2,b5⟩:=mx args 0;obtain ⟨k,av,gl⟩:=ln _ 0 d r (by rw[a1,k2]) ax;have fD:d=k:=by omega
   subst fD;have bo:=b5 d (d,r) gl;simp only at bo;obtain ⟨v,aX,hL⟩:=rP eG bo;have ed:vs[d]? =some v:=by simpa using aX
   have j4:d<vs.size:=(Array.getElem?_eq_some_iff.1 ed).1;have:(vs++Array.replicate (fn.ntmps-vs.size) undef).getD d undef=v:=by
    rw[Array.getD_eq_getD_getElem?,Array.getElem?_append_left j4,ed];rfl
   rw[hk (by omega),this];exact ⟨hL,fun i ab=>eu i (rM bo i ab)⟩
  have nj:(S.enc s).heap=H:=by rw[fE]
  have h2:fA F.m (S.enc s).heap:=by
   rw[nj,ej,<-hi.2];exact fun o an=>ei o an
  refine Kf tab cE hm c 0 _ ai b6 φ ι w _ _ aa dq pb mB cv (hc.fn ia) jP h2 fun bc w' φ' ι' cp sp bE=> ?_
  rw[nj]at sp;refine BA al cp sp fun w' cp sp=> ?_
  have jL:=bE.live h2;obtain ⟨bh,bZ,us,da,c4,fh,gq⟩:=tv tab fn.results.toList 0 R b6.heap _ aZ kK jd cp.heap cp.regs;have kz:R.length=us.length:=by
   have:=congrArg List.length fh;simpa [c4] using this
  have iC:cL φ' ι' w' ⟨us.toArray.size,0,[],none,false⟩ ⟨R,aZ⟩ {tmps:=us.toArray,defers:=[]}:=by
   rw[bh];refine ⟨cp.heap,fun d r ax=> ?_,rfl,by rw[List.size_toArray,c4];simpa using gO,wd (Nat.zero_le _)⟩;obtain ⟨k,av,gl⟩:=ln R 0 d r (by rw[fh];congr 1;omega) ax;have fD:d=k:=by omega
   subst fD;obtain ⟨v,aX,hL,ft⟩:=gq d (d,r) gl;have:us.toArray.getD d undef=v:=by simp[Array.getD_eq_getD_getElem?,aX]
   have j4:d<us.length:=(List.getElem?_eq_some_iff.1 aX).1;have NC:fn.results.toList.length=fn.results.size:=by simp
   rw[hk (by omega)];simp only[this];exact ⟨hL,ft⟩
  obtain ⟨du,dz,c2,cr,ey,ka,oa⟩:=j1 dn iC (by rw[bh];exact jL);have gj:(Z.enc z).regs.length=us.toArray.size:=by
   have:=congrArg List.length jh;simp only[List.length_map,List.length_range']at this;rw[this];simp[c4]
  obtain ⟨ar,aM⟩:=sb (vs:=us.toArray) (R:=(Z.enc z).regs) (by rw[jh];congr 1;simpa [c4] using gj.symm) gj (uy (a:={tmps:=us.toArray,defers:=[]}) (by rw[jh];congr 1;simpa [c4] using gj.symm) (by rw[gj,List.size_toArray,c4];simpa using gO) c2.regs);have kH:=tw da;refine ⟨_,kH,_,du,dz,rfl,c2.heap,?_,?_,ar,aM⟩
  ·rw[bh]at cr;exact sp.trans cr
  ·rw[nj]at bE;rw[bh]at ey;have hn:=bE.trans ey;refine ⟨fun o an=> ?_,fun o an=> ?_⟩
   ·have a8:o<F.m:=by rw[ej,<-hi.2];exact fl an
    exact (hn o a8 an).1
   ·have a8:o<F.m:=by rw[ej,<-hi.2];exact fl an
    exact (hn o a8 an).2
end
theorem amW [Env] {P:Program} {F:ba} {C:jU} {nt:Nat} (tab:cA P F.cx) (cE:bO P F.Γ) (hm:P.follows .mixedOrders=true) {L:bA} {c:Code} {k:Nat} {b:L.S.ty.den->Option (L.S.ty.den⊕L.Out)} {f:L.S.ty.den->Option L.Out} (M9: ∀s,f s=bM b s) (lY:F.Λ k=L.go f F.m)
  {l:List (Nat×Code)} {m:List ((bn->DT (dv×bn))×Code)} (hK:dF c k=l) (dq:mT P F nt l) (sL:ib C c=m) (pb:yj P F nt m) (aB:fS nt c=true) (cv:h8 P F nt c) (ag: ∀s,(L.bodyK F C c k s).val=b s):fT P F nt k c:=by
 refine al3 (C:=C) tab cE hm lY (tO hK dq) (KN sL pb) aB cv fun s o h=> ?_
 rw[M9]at h;obtain ⟨n,aQ⟩:=JV h;exact ⟨n,by rw[show (fun s=>(L.bodyK F C c k s).val)=b from funext ag];exact aQ⟩
theorem BT [Env] {P:Program} {F:ba} {C:jU} (tab:cA P F.cx) (cE:bO P F.Γ) (hm:P.follows .mixedOrders=true) {E:aS} {fn:Func} (aJ:P.funcs[E.f]? =some fn) (ag:fn.body=some (bK fn)) (cJ:lH fn E.S E.Z=true)
  {l:List (Nat×Code)} {m:List ((bn->DT (dv×bn))×Code)} (hK:dF (bK fn) 0=l) (dq:mT P F fn.ntmps l) (sL:ib C (bK fn)=m) (pb:yj P F fn.ntmps m) (cv:h8 P F fn.ntmps (bK fn)) (ej:F.m=E.S.objs.length) (bH: ∀s,(ql F C fn E.S E.Z s).val=E.g s):ck P E:=
 fun args H s z au bz=>ank tab cE hm aJ ag cJ (tO hK dq) (KN sL pb) cv ej au ((bH s).trans bz)
end Go.X
