import Derived.Test.YtmmmpanpbphkdaaGreatDoorXB
import Derived.ProofKit
import Derived.OpenShut
import Derived.DataElems
import Derived.SizedLaws
import Derived.WalkKit
import Derived.ShutString
import Derived.Laws.StructEq
import Derived.Lib.Strings
import Derived.Lib.Slices
import Derived.Lib.Walk
import Derived.Lib.Bytealg
set_option linter.unusedVariables false
set_option linter.unusedSimpArgs false
namespace Go.X
open Go.RowKit
def eS (p q:dj):dj:=⟨q.rd++p.rd,q.fz++p.fz,q.wr++p.wr⟩
theorem acK {α:Type} (x:HM α): ∀(h:List aF) (n:Nat) (p:dj),(x.run h n p).val=(x.run h n .none).val.map λr=>(r.1,r.2.1,r.2.2.1,eS p r.2.2.2):=by
 induction x with
 |ret a=>intro h n p;simp[HM.run,DT.val,eS,dj.none]
 |fail=>intro h n p;simp[HM.run,DT.val]
 |br b x y jj jk=>intro h n p;cases b<;>simp[HM.run,DT.val]<;>first |exact jj h n p |exact jk h n p
 |opt o k aQ=>intro h n p;cases o<;>simp[HM.run,DT.val];exact aQ _ h n p
 |alt o k l pr vu=>
  intro h n p;cases o with
  |none=>simp[HM.run,DT.val]
  |some r=>cases r<;>simp[HM.run,DT.val]<;>first |exact pr _ h n p |exact vu _ h n p
 |rdc o k aQ=>
  intro h n p;simp only[HM.run];rw[aQ _ h n ⟨o::p.rd,p.fz,p.wr⟩,aQ _ h n ⟨o::dj.none.rd,dj.none.fz,dj.none.wr⟩,Option.map_map];congr 1;funext r;simp[eS,dj.none]
 |frz o k aQ=>
  intro h n p;simp only[HM.run];rw[aQ _ n ⟨p.rd,o::p.fz,p.wr⟩,aQ _ n ⟨dj.none.rd,o::dj.none.fz,dj.none.wr⟩,Option.map_map];congr 1;funext r;simp[eS,dj.none]
 |rdw o k aQ=>
  intro h n p;simp only[HM.run];rw[aQ _ h n ⟨p.rd,p.fz,o::p.wr⟩,aQ _ h n ⟨dj.none.rd,dj.none.fz,o::dj.none.wr⟩,Option.map_map];congr 1;funext r;simp[eS,dj.none]
 |wr o b k aQ=>
  intro h n p;simp only[HM.run];rw[aQ _ n ⟨p.rd,p.fz,o::p.wr⟩,aQ _ n ⟨dj.none.rd,dj.none.fz,o::dj.none.wr⟩,Option.map_map];congr 1;funext r;simp[eS,dj.none]
 |nw b k aQ=>
  intro h n p;simp only[HM.run];rw[aQ _ _ _ ⟨p.rd,p.fz,n::p.wr⟩,aQ _ _ _ ⟨dj.none.rd,dj.none.fz,n::dj.none.wr⟩,Option.map_map];congr 1;funext r;simp[eS,dj.none]
 |nxt k aQ=>intro h n p;simp only[HM.run];exact aQ _ h n p
theorem Av {α:Type} {x:HM α} {h:List aF} {n:Nat} {p:dj} {a:α} {cu:List aF} {aI:Nat} {q:dj} (e:(x.run h n p).val=some (a,cu,aI,q)): ∃bj,(x.run h n .none).val=some (a,cu,aI,bj)/\q=eS p bj:=by rw[acK]at e;obtain ⟨⟨dY,s,c8,bj⟩,L,aa⟩:=h7.1 e;simp only[cV]at aa;obtain ⟨rfl,rfl,rfl,rfl⟩:=aa;exact ⟨bj,L,rfl⟩
theorem AM {α:Type} {x:HM α} {h:List aF} {n:Nat} {p:dj} {a:α} {cu:List aF} {aI:Nat} {bj:dj} (e:(x.run h n .none).val=some (a,cu,aI,bj)):(x.run h n p).val=some (a,cu,aI,eS p bj):=by rw[acK,e];rfl
structure rZ (ar:Nat) (q:dj):Prop where
 rd: ∀o∈q.rd,o<ar
 fz: ∀o∈q.fz,o<ar
 wr: ∀o∈q.wr,o<ar
theorem rZ.of {ar:Nat} {q:dj} (h:E2 ar q=true):rZ ar q:=by simp only[E2,bN,fy]at h;exact ⟨λo W=>by simpa using h.1.1 o W,λo W=>by simpa using h.1.2 o W,λo W=>by simpa using h.2 o W⟩
theorem rZ.tail {ar:Nat} {p q:dj} (h:rZ ar (eS p q)):rZ ar q:=⟨λo W=>h.rd o (dk.2 (.inl W)),λo W=>h.fz o (dk.2 (.inl W)),λo W=>h.wr o (dk.2 (.inl W))⟩
def mP (b:Prop) [Decidable b] (x:aF):aF:=if b then x.freeze else x
theorem aoS (b:aF):b.freeze.freeze=b.freeze:=by cases b<;>rfl
theorem Na (b:aF):b.freeze.mask=b.mask:=by cases b<;>rfl
theorem aay {p:Prop} [Decidable p] (b:aF):(mP p b).mask=b.mask:=by unfold mP;split<;>simp[Na]
structure KT (h:List aF) (q:dj) (cu:List aF):Prop where
 len:cu.length=h.length
 other: ∀o,o∉q.wr->aE cu o=mP (o∈q.fz) (aE h o)
theorem FH {α:Type} (x:HM α): ∀(h E:List aF) (n:Nat) (a:α) (cu:List aF) (aI:Nat) (q:dj),(x.run h n .none).val=some (a,cu,aI,q)->rZ h.length q->E.length=h.length->
  (∀o∈q.rd,(aE h o).mask=(aE E o).mask)->(∀o∈q.wr,aE h o=aE E o)->
  ∃hM,(x.run E n .none).val=some (a,hM,aI,q)/\KT h q cu/\KT E q hM/\ ∀o∈q.wr,aE hM o=aE cu o:=by
 induction x with
 |ret a=>
  intro h E n b cu aI q e lt ab au hw;simp only[HM.run,DT.val,bH,cV]at e;obtain ⟨rfl,rfl,rfl,rfl⟩:=e;exact ⟨E,rfl,⟨rfl,λo _=>by simp[mP,dj.none]⟩,⟨rfl,λo _=>by simp[mP,dj.none]⟩,λo W=>by simp[dj.none]at W⟩
 |fail=>intro h E n b cu aI q e;simp[HM.run,DT.val]at e
 |br b x y jj jk=>
  intro h E n a cu aI q e lt ab au hw;cases b
  ·exact jk h E n a cu aI q e lt ab au hw
  ·exact jj h E n a cu aI q e lt ab au hw
 |opt o k aQ=>
  intro h E n a cu aI q e lt ab au hw;cases o with
  |none=>simp[HM.run,DT.val]at e
  |some r=>exact aQ r h E n a cu aI q e lt ab au hw
 |alt o k l pr vu=>
  intro h E n a cu aI q e lt ab au hw;cases o with
  |none=>simp[HM.run,DT.val]at e
  |some r=>cases r with
   |inl r=>exact pr r h E n a cu aI q e lt ab au hw
   |inr r=>exact vu r h E n a cu aI q e lt ab au hw
 |rdc o k aQ=>
  intro h E n a cu aI q e lt ab au hw;simp only[HM.run]at e;obtain ⟨bj,L,rfl⟩:=Av e;have W:(aE h o).mask=(aE E o).mask:=au o (by simp[eS]);obtain ⟨hM,ah,aJ,bR,cB⟩:=aQ _ h E n a cu aI bj L lt.tail ab (λi u=>au i (by simp[eS,u])) (λi u=>hw i (by simp[eS,u]));refine ⟨hM,?_,⟨aJ.len,λi u=> ?_⟩,⟨bR.len,λi u=> ?_⟩,λi u=>cB i (by simpa [eS,dj.none] using u)⟩
  ·simp only[HM.run];rw[<-W];exact AM ah
  ·have:=aJ.other i (by simpa [eS,dj.none] using u);simpa [eS,dj.none] using this
  ·have:=bR.other i (by simpa [eS,dj.none] using u);simpa [eS,dj.none] using this
 |frz o k aQ=>
  intro h E n a cu aI q e lt ab au hw;simp only[HM.run]at e;obtain ⟨bj,L,rfl⟩:=Av e;have CC:o<h.length:=lt.fz o (by simp[eS]);have dD:=ie h o (aE h o).freeze CC;have dr:=ie E o (aE E o).freeze (by omega);have g1:=λi=>gA h o (aE h o).freeze i (by omega)
  have g2:=λi=>gA E o (aE E o).freeze i (by omega)
  obtain ⟨hM,ah,aJ,bR,cB⟩:=aQ _ (bY E o (aE E o).freeze) n a cu aI bj L (by rw[dD];exact lt.tail) (by omega) (λi u=>by
    have:=au i (by simp[eS,u]);rw[g1,g2];split
    ·rename_i h;subst h;rw[Na,Na];exact this
    ·exact this) (λi u=>by
    have:=hw i (by simp[eS,u]);rw[g1,g2];split
    ·rename_i h;subst h;rw[this]
    ·exact this)
  have fin: ∀{x qv:List aF},(∀i,aE (bY x o (aE x o).freeze) i=if i=o then (aE x o).freeze else aE x i)->(∀i,i∉bj.wr->aE qv i=mP (i∈bj.fz) (aE (bY x o (aE x o).freeze) i))->
    ∀i,i∉(eS ⟨dj.none.rd,o::dj.none.fz,dj.none.wr⟩ bj).wr->aE qv i=mP (i∈(eS ⟨dj.none.rd,o::dj.none.fz,dj.none.wr⟩ bj).fz) (aE x i):=by
   intro x qv g r i u;rw[r i (by simpa [eS,dj.none] using u),g];by_cases jh:i=o
   ·subst jh;simp only[if_true,eS,dj.none,mP];simp[aoS]
   ·simp[eS,dj.none,mP,jh]
  refine ⟨hM,?_,⟨aJ.len.trans dD,fin g1 aJ.other⟩,⟨bR.len.trans dr,fin g2 bR.other⟩,λi u=>cB i (by simpa [eS,dj.none] using u)⟩;simp only[HM.run];exact AM ah
 |rdw o k aQ=>
  intro h E n a cu aI q e lt ab au hw;simp only[HM.run]at e;obtain ⟨bj,L,rfl⟩:=Av e;have W:aE h o=aE E o:=hw o (by simp[eS]);obtain ⟨hM,ah,aJ,bR,cB⟩:=aQ _ h E n a cu aI bj L lt.tail ab (λi u=>au i (by simp[eS,u])) (λi u=>hw i (by simp[eS,u]));refine ⟨hM,?_,⟨aJ.len,λi u=> ?_⟩,⟨bR.len,λi u=> ?_⟩,λi u=> ?_⟩
  ·simp only[HM.run];rw[<-W];exact AM ah
  ·simp only[eS,dj.none,dk,eO,List.not_mem_nil,or_false,not_or]at u;have:=aJ.other i u.1;simpa [eS,dj.none] using this
  ·simp only[eS,dj.none,dk,eO,List.not_mem_nil,or_false,not_or]at u;have:=bR.other i u.1;simpa [eS,dj.none] using this
  ·by_cases gT:i∈bj.wr
   ·exact cB i gT
   ·rw[bR.other i gT,aJ.other i gT,hw i u]
 |wr o b k aQ=>
  intro h E n a cu aI q e lt ab au hw;simp only[HM.run]at e;obtain ⟨bj,L,rfl⟩:=Av e;have CC:o<h.length:=lt.wr o (by simp[eS]);have dD:=ie h o b CC;have dr:=ie E o b (by omega);have g1:=λi=>gA h o b i (by omega)
  have g2:=λi=>gA E o b i (by omega)
  obtain ⟨hM,ah,aJ,bR,cB⟩:=aQ _ (bY E o b) n a cu aI bj L (by rw[dD];exact lt.tail) (by omega) (λi u=>by
    have:=au i (by simp[eS,u]);rw[g1,g2];split
    ·rfl
    ·exact this) (λi u=>by
    have:=hw i (by simp[eS,u]);rw[g1,g2];split
    ·rfl
    ·exact this)
  refine ⟨hM,?_,⟨aJ.len.trans dD,λi u=> ?_⟩,⟨bR.len.trans dr,λi u=> ?_⟩,λi u=> ?_⟩
  ·simp only[HM.run];exact AM ah
  ·simp only[eS,dj.none,dk,eO,List.not_mem_nil,or_false,not_or]at u;have:=aJ.other i u.1;rw[g1,if_neg u.2]at this;simpa [eS,dj.none] using this
  ·simp only[eS,dj.none,dk,eO,List.not_mem_nil,or_false,not_or]at u;have:=bR.other i u.1;rw[g2,if_neg u.2]at this;simpa [eS,dj.none] using this
  ·by_cases gT:i∈bj.wr
   ·exact cB i gT
   ·rw[bR.other i gT,aJ.other i gT,g1,g2];split
    ·rfl
    ·rw[hw i u]
 |nw b k aQ=>
  intro h E n a cu aI q e lt ab au hw;simp only[HM.run]at e;obtain ⟨bj,L,rfl⟩:=Av e;have CC:n<h.length:=lt.wr n (by simp[eS]);have dD:=ie h n b CC;have dr:=ie E n b (by omega);have g1:=λi=>gA h n b i (by omega)
  have g2:=λi=>gA E n b i (by omega)
  obtain ⟨hM,ah,aJ,bR,cB⟩:=aQ n _ (bY E n b) (n+1) a cu aI bj L (by rw[dD];exact lt.tail) (by omega) (λi u=>by
    have:=au i (by simp[eS,u]);rw[g1,g2];split
    ·rfl
    ·exact this) (λi u=>by
    have:=hw i (by simp[eS,u]);rw[g1,g2];split
    ·rfl
    ·exact this)
  refine ⟨hM,?_,⟨aJ.len.trans dD,λi u=> ?_⟩,⟨bR.len.trans dr,λi u=> ?_⟩,λi u=> ?_⟩
  ·simp only[HM.run];exact AM ah
  ·simp only[eS,dj.none,dk,eO,List.not_mem_nil,or_false,not_or]at u;have:=aJ.other i u.1;rw[g1,if_neg u.2]at this;simpa [eS,dj.none] using this
  ·simp only[eS,dj.none,dk,eO,List.not_mem_nil,or_false,not_or]at u;have:=bR.other i u.1;rw[g2,if_neg u.2]at this;simpa [eS,dj.none] using this
  ·by_cases gT:i∈bj.wr
   ·exact cB i gT
   ·rw[bR.other i gT,aJ.other i gT,g1,g2];split
    ·rfl
    ·rw[hw i u]
 |nxt k aQ=>
  intro h E n a cu aI q e lt ab au hw;exact aQ n h E n a cu aI q e lt ab au hw
open Go.RowKit
section
variable {P:cq} {cx:cd} {Γ:hG} {ops:Array Oper}
theorem Z1 [Env] {o:Oper} {c9 p0:Operand->K} (h: ∀x∈o.op.operands.toList,c9 x=p0 x):nj cx Γ o c9=nj cx Γ o p0:=by
 obtain ⟨dst,op,ty,pos,after,guard⟩:=o;have mp: ∀ps:List (Nat×Operand),(∀x∈ps.map (·.2),c9 x=p0 x)->(ps.map λp=>(p.1,c9 p.2))=ps.map λp=>(p.1,p0 p.2):=λps aP=>
  List.map_congr_left λp hm=>by rw[aP p.2 (List.mem_map.2 ⟨p,hm,rfl⟩)]
 have ml: ∀ps:List Operand,(∀x∈ps,c9 x=p0 x)->ps.map c9=ps.map p0:=λps aP=>List.map_congr_left aP
 have Sf: ∀ps:Option Operand,(∀x∈ps.toArray,c9 x=p0 x)->ps.map c9=ps.map p0:=λps aP=>by
  cases ps with
  |none=>rfl
  |some x=>simp[aP x (by simp)]
 cases op<;>simp only[Op.operands]at h<;>simp only[nj]
 case move x=>rw[h x (by simp)]
 case assign x=>rw[h x (by simp)]
 case pick c a b=>rw[h c (by simp),h a (by simp),h b (by simp)]
 case box T x=>rw[h x (by simp)]
 case build T ps=>rw[mp ps.toList (λx ai=>h x (by simpa using ai))]
 case buildSlice T m ps=>rw[mp ps.toList (λx ai=>h x (by simpa using ai))]
 case load T x=>rw[h x (by simp)]
 case store T x y=>rw[h x (by simp),h y (by simp)]
 case nilCheck x=>rw[h x (by simp)]
 case binOp b T x y z=>rw[h x (by simp),h y (by simp)]
 case unOp b T x=>rw[h x (by simp)]
 case convert S T x=>rw[h x (by simp)]
 case makeInterface T x=>rw[h x (by simp)]
 case makeFunc f l m=>
  cases f
  case func f=>simp only;rw[ml l.toList (λx ai=>h x (by simp;exact .inl (by simpa using ai))),ml m.toList (λx ai=>h x (by simp;exact .inr (by simpa using ai)))]
  all_goals rfl
 case makeSlice T x y=>rw[h x (by simp),h y (by simp)]
 case slice T x l m k=>
  rw[h x (by simp),Sf l (λy bo=>h y (by simp at bo ⊢;simp[bo])),Sf m (λy bo=>h y (by simp at bo ⊢;simp[bo])),Sf k (λy bo=>h y (by simp at bo ⊢;simp[bo]))]
 case fieldAddr T x f=>rw[h x (by simp)]
 case field T x f=>rw[h x (by simp)]
 case indexAddr T x y=>rw[h x (by simp),h y (by simp)]
 case index T x y=>rw[h x (by simp),h y (by simp)]
 case extract x j=>rw[h x (by simp)]
 case range T x=>rw[h x (by simp)]
 case next x b=>rw[h x (by simp)]
 case call c=>
  have s:c.args.toList.map c9=c.args.toList.map p0:=ml _ λx ai=>h x (by simp[Call.operands];exact .inr (by simpa using ai))
  rw[s];cases aw:c.callee with
  |builtin b=>rfl
  |value f=>simp only;rw[h f (by simp[Call.operands,aw])]
  |invoke r m=>simp only;rw[h r (by simp[Call.operands,aw])]
def uN (ops:Array Oper) (R:bO) (o:Oper):Option Bool:=match o.guard with
 |none=>some true
 |some (j,want)=>match (ops[j]?).bind (·.dst) with
  |some I=>match (R.get I).bind mo with
   |some b=>some (Bi b want)
   |none=>match R.get I with
    |some (.tup [])=>some false
    |_=>none
  |none=>none
def qM [Env] (cx:cd) (Γ:hG) (o:Oper) (R:bO) (b:Bool):HM K:=bif b then nj cx Γ o (h2 R) else .ret (.tup [])
theorem NV [Env] {o:Oper} {R eH:bO} (h: ∀I∈rR ops o,R.get I=eH.get I):uN ops R o=uN ops eH o/\ ∀b,qM cx Γ o R b=qM cx Γ o eH b:=by
 constructor
 ·unfold uN;cases bu:o.guard with
  |none=>rfl
  |some CW=>
   obtain ⟨j,want⟩:=CW;simp only;cases an:(ops[j]?).bind (·.dst) with
   |none=>rfl
   |some I=>
    simp only;rw[h I (by simp[rR,Oper.looksAt,bu,an])]
 ·intro b;unfold qM;rw[Z1 (c9:=h2 R) (p0:=h2 eH)];intro x ai;cases x with
  |tmp t=>simp only[h2];rw[h t (by simp only[rR,Oper.looksAt,dk,List.mem_filterMap];exact .inl ⟨.tmp t,ai,rfl⟩)]
  |const v=>rfl
  |global g=>rfl
  |func f=>rfl
theorem wg (R:bO) (I:Option Tmp) (r:K) (e:Nat):(lV R I r).get e=if I=some e then some r else R.get e:=by
 cases I with
 |none=>simp[lV]
 |some I=>
  simp only[lV,bO.get_put,bH];by_cases h:e=I
  ·subst h;simp
  ·rw[if_neg h,if_neg (λcu=>h cu.symm)]
theorem Fg [Env] {o:Oper} {st cn:bz} {nx n:Nat} {p:dj}:(uM cx Γ o st nx).val=some (cn,n,p)↔ ∃r,((nj cx Γ o (h2 st.regs)).run st.heap nx .none).val=some (r,cn.heap,n,p)/\cn.regs=lV st.regs o.dst r:=by
 unfold uM;constructor
 ·intro e;obtain ⟨⟨r,h,m,q⟩,L,aa⟩:=DT.val_bind_some e;simp only[DT.val,bH,cV]at aa;obtain ⟨rfl,rfl,rfl⟩:=aa;exact ⟨r,L,rfl⟩
 ·rintro ⟨r,L,aa⟩;rw[DT.val_bind,L];obtain ⟨jv,H1⟩:=cn;simp only at aa;subst aa;rfl
theorem aaB [Env] {o:Oper} {R eH:bO} (h: ∀e,R.get e=eH.get e):nj cx Γ o (h2 R)=nj cx Γ o (h2 eH):=by
 refine Z1 λx _=> ?_
 cases x with
 |tmp t=>simp only[h2];rw[h t]
 |const v=>rfl
 |global g=>rfl
 |func f=>rfl
theorem FQ {R eH:bO} (h: ∀e,R.get e=eH.get e) (I:Option Tmp) (r:K) (e:Nat):(lV R I r).get e=(lV eH I r).get e:=by rw[wg,wg,h]
theorem abs [Env] {o:Oper} {st cn:bz} {nx n:Nat} {p:dj} (e:(qq cx Γ ops o st nx).val=some (cn,n,p)):
  ∃b r,uN ops st.regs o=some b/\((qM cx Γ o st.regs b).run st.heap nx .none).val=some (r,cn.heap,n,p)/\ ∀e,cn.regs.get e=(lV st.regs o.dst r).get e:=by
 unfold qq at e;unfold uN;cases bu:o.guard with
 |none=>
  simp only[bu]at e;obtain ⟨r,s,E⟩:=Fg.1 e;exact ⟨true,r,rfl,s,λe=>by rw[E]⟩
 |some CW=>
  obtain ⟨j,want⟩:=CW;simp only[bu]at e ⊢;cases an:(ops[j]?).bind (·.dst) with
  |none=>simp[an,DT.val]at e
  |some I=>
   simp only[an]at e ⊢;cases J:(st.regs.get I).bind mo with
   |none=>
    simp only[J]at e ⊢;split at e
    ·rename_i bx;simp only[DT.val,bH,cV]at e;obtain ⟨rfl,rfl,rfl⟩:=e;exact ⟨false,.tup [],by simp only[bx],rfl,λ_=>rfl⟩
    ·simp[DT.val]at e
   |some b=>
    have bx:=zZ J;simp only[J,DT.val]at e ⊢;cases u:Bi b want
    ·have pc:b= !want:=by cases b<;>cases want<;>first |rfl |cases u
     simp only[u,ax,bH,cV]at e;obtain ⟨rfl,rfl,rfl⟩:=e;exact ⟨false,.tup [],rfl,rfl,FQ (tB (by rw[bx,pc])) _ _⟩
    ·have pc:b=want:=by cases b<;>cases want<;>first |rfl |cases u
     simp only[u,ak]at e;obtain ⟨r,s,E⟩:=Fg.1 e;have au:=tB (R:=st.regs) (I:=I) (b:=want) (by rw[bx,pc]);refine ⟨true,r,rfl,?_,λe=> ?_⟩
     ·simp only[qM,ak];rw[<-aaB au];exact s
     ·rw[E];exact FQ au _ _ e
theorem NG [Env] {o:Oper} {st:bz} {h:List aF} {nx n:Nat} {p:dj} {b:Bool} {r:K} (aT:uN ops st.regs o=some b) (e:((qM cx Γ o st.regs b).run st.heap nx .none).val=some (r,h,n,p)):
  ∃jv,(qq cx Γ ops o st nx).val=some (⟨jv,h⟩,n,p)/\ ∀e,jv.get e=(lV st.regs o.dst r).get e:=by
 unfold uN at aT;unfold qq;cases bu:o.guard with
 |none=>
  simp only[bu,bH]at aT;subst aT;exact ⟨lV st.regs o.dst r,Fg.2 ⟨r,e,rfl⟩,λ_=>rfl⟩
 |some CW=>
  obtain ⟨j,want⟩:=CW;simp only[bu]at aT ⊢;cases an:(ops[j]?).bind (·.dst) with
  |none=>simp[an]at aT
  |some I=>
   simp only[an]at aT ⊢;cases J:(st.regs.get I).bind mo with
   |none=>
    simp only[J]at aT ⊢;split at aT
    ·rename_i bx;simp only[bH]at aT;subst aT;simp only[qM,ax,HM.run,DT.val,bH,cV]at e;obtain ⟨rfl,rfl,rfl,rfl⟩:=e;refine ⟨lV st.regs o.dst (.tup []),?_,λ_=>rfl⟩;simp only[bx,DT.val]
    ·cases aT
   |some bQ=>
    have bx:=zZ J;simp only[J,bH]at aT;simp only[DT.val];rw[aT];cases b
    ·have pc:bQ= !want:=by cases bQ<;>cases want<;>first |rfl |cases aT
     simp only[qM,ax,HM.run,DT.val,bH,cV]at e ⊢;obtain ⟨rfl,rfl,rfl,rfl⟩:=e;exact ⟨_,⟨rfl,rfl,rfl⟩,FQ (tB (by rw[bx,pc])) _ _⟩
    ·have pc:bQ=want:=by cases bQ<;>cases want<;>first |rfl |cases aT
     have au:=tB (R:=st.regs) (I:=I) (b:=want) (by rw[bx,pc]);simp only[qM,ak]at e ⊢;rw[<-aaB au]at e;exact ⟨lV (refine st.regs I want) o.dst r,Fg.2 ⟨r,e,rfl⟩,FQ au _ _⟩
def kW (a b:bz):Prop:=(∀I,a.regs.get I=b.regs.get I)/\a.heap=b.heap
theorem kW.refl (a:bz):kW a a:=⟨λ_=>rfl,rfl⟩
theorem kW.symm {a b:bz} (h:kW a b):kW b a:=⟨λI=>(h.1 I).symm,h.2.symm⟩
theorem kW.trans {a b c:bz} (h:kW a b) (k:kW b c):kW a c:=⟨λI=>(h.1 I).trans (k.1 I),h.2.trans k.2⟩
structure pL [Env] (cx:cd) (Γ:hG) (ops:Array Oper) (base ar:Nat) (aY:Nat->dj) (i:Nat) (st cn:bz):Prop where
 ex: ∃o n,ops[i]? =some o/\(qq cx Γ ops o st (base+slotsOf*i)).val=some (cn,n,aY i)/\n<=base+slotsOf*i+slotsOf
 lt:rZ ar (aY i)
 len:st.heap.length=ar
variable {base ar:Nat} {aY:Nat->dj}
theorem pL.left [Env] {i:Nat} {st cn:bz} (d:pL cx Γ ops base ar aY i st cn):KT st.heap (aY i) cn.heap:=by obtain ⟨o,n,s,E,O⟩:=d.ex;obtain ⟨b,r,aC,ba,bF⟩:=abs E;obtain ⟨hM,-,l,-⟩:=FH _ st.heap st.heap _ _ _ _ _ ba (by rw[d.len];exact d.lt) rfl (λ_ _=>rfl) (λ_ _=>rfl);exact l
theorem pL.congr [Env] {i:Nat} {st cn a8:bz} (d:pL cx Γ ops base ar aY i st cn) (e:kW st a8): ∃tH,pL cx Γ ops base ar aY i a8 tH/\kW cn tH:=by obtain ⟨o,n,s,E,O⟩:=d.ex;obtain ⟨b,r,aC,ba,bF⟩:=abs E;obtain ⟨a7,aX⟩:=NV (cx:=cx) (Γ:=Γ) (ops:=ops) (o:=o) (R:=st.regs) (eH:=a8.regs) (λI _=>e.1 I);obtain ⟨jv,g1,g2⟩:=NG (cx:=cx) (Γ:=Γ) (ops:=ops) (o:=o) (st:=a8) (nx:=base+slotsOf*i) (b:=b) (by rw[<-a7];exact aC) (by rw[<-aX,<-e.2];exact ba);refine ⟨⟨jv,cn.heap⟩,⟨⟨o,n,s,g1,O⟩,d.lt,by rw[<-e.2];exact d.len⟩,⟨λI=> ?_,rfl⟩⟩;rw[bF,g2,wg,wg,e.1 I]
structure GL (ops:Array Oper) (aY:Nat->dj) (a b:Nat):Prop where
 regs: ∀tu dd,ops[a]? =some tu->ops[b]? =some dd->(∀I,tu.dst=some I->I∉rR ops dd/\dd.dst≠some I)/\ ∀I,dd.dst=some I->I∉rR ops tu
 ww: ∀o∈(aY a).wr,o∉(aY b).wr
 wr: ∀o∈(aY a).wr,o∉(aY b).rd
 wf: ∀o∈(aY a).wr,o∉(aY b).fz
 rw_: ∀o∈(aY b).wr,o∉(aY a).rd
 fw: ∀o∈(aY b).wr,o∉(aY a).fz
theorem swap [Env] {a b:Nat} {st cn eo:bz} (tE:pL cx Γ ops base ar aY a st cn) (Du:pL cx Γ ops base ar aY b cn eo) (ap:GL ops aY a b):
  ∃tH SE,pL cx Γ ops base ar aY b st tH/\pL cx Γ ops base ar aY a tH SE/\kW eo SE:=by
 have jB:=tE.left;obtain ⟨tu,avC,dY,a2,a3⟩:=tE.ex;obtain ⟨asB,agu,a4,a5,oa⟩:=abs a2;obtain ⟨dd,avD,b1,b2,b3⟩:=Du.ex;obtain ⟨fj,agv,hs,hI,jY⟩:=abs b2;obtain ⟨ah,aJ⟩:=ap.regs tu dd dY b1;have iR:=NV (cx:=cx) (Γ:=Γ) (ops:=ops) (o:=dd) (R:=cn.regs) (eH:=st.regs) (λI al=>by rw[oa,wg,if_neg];intro h;exact (ah I h).1 al)
 obtain ⟨dq,fU,fV,nN,IE⟩:=FH _ cn.heap st.heap _ _ _ _ _ hI (by rw[Du.len];exact Du.lt) (by rw[tE.len,Du.len]) (λo W=>by
  rw[jB.other o (λh=>ap.wr o h W),aay]) (λo W=>by
  rw[jB.other o (λh=>ap.ww o h W)];unfold mP;rw[if_neg (ap.fw o W)])
 obtain ⟨hM,bj,bG,dm,cJ⟩:=FH _ st.heap dq _ _ _ _ _ a5 (by rw[tE.len];exact tE.lt) nN.len (λo W=>by
  rw[nN.other o (λh=>ap.rw_ o h W),aay]) (λo W=>by
  rw[nN.other o (λh=>ap.ww o W h)];unfold mP;rw[if_neg (ap.wf o W)])
 obtain ⟨jv,g1,g2⟩:=NG (cx:=cx) (Γ:=Γ) (ops:=ops) (o:=dd) (st:=st) (nx:=base+slotsOf*b) (b:=fj) (by rw[<-iR.1];exact hs) (by rw[<-iR.2];exact fU);have G1:=NV (cx:=cx) (Γ:=Γ) (ops:=ops) (o:=tu) (R:=st.regs) (eH:=jv) (λI al=>by rw[g2,wg,if_neg];intro h;exact aJ I h al)
 obtain ⟨wJ,g3,g4⟩:=NG (cx:=cx) (Γ:=Γ) (ops:=ops) (o:=tu) (st:=⟨jv,dq⟩) (nx:=base+slotsOf*a) (b:=asB) (by rw[<-G1.1];exact a4) (by rw[<-G1.2];exact bj);refine ⟨⟨jv,dq⟩,⟨wJ,hM⟩,⟨⟨dd,avD,b1,g1,b3⟩,Du.lt,tE.len⟩,⟨⟨tu,avC,dY,g3,a3⟩,tE.lt,by rw[<-tE.len];exact nN.len⟩,⟨λI=> ?_,?_⟩⟩
 ·rw[jY,g4];simp only[wg,oa,g2];by_cases s:dd.dst=some I
  ·rw[if_pos s,if_neg (λh=>(ah I h).2 s),if_pos s]
  ·rw[if_neg s,if_neg s]
 ·have hlen:eo.heap.length=hM.length:=by rw[dm.len,nN.len,<-jB.len,<-fV.len]
  refine List.ext_getElem? λo=> ?_
  have key:aE eo.heap o=aE hM o:=by
   by_cases yg:o∈(aY a).wr
   ·rw[cJ o yg,fV.other o (ap.ww o yg)];unfold mP;rw[if_neg (ap.wf o yg)]
   ·by_cases Ik:o∈(aY b).wr
    ·rw[dm.other o yg];unfold mP;rw[if_neg (ap.fw o Ik),IE o Ik]
    ·rw[dm.other o yg,nN.other o Ik,fV.other o Ik,jB.other o yg];unfold mP;split<;>split<;>rfl
  rcases Nat.lt_or_ge o eo.heap.length with h |h
  ·have cu:o<hM.length:=by omega
   simp only[aE,jH,hg h,hg cu,Option.getD_some]at key;rw[hg h,hg cu,key]
  ·rw[List.getElem?_eq_none h,List.getElem?_eq_none (show hM.length<=o by omega)]
def n8 [Env] (cx:cd) (Γ:hG) (ops:Array Oper) (base ar:Nat) (aY:Nat->dj):List Nat->bz->bz->Prop
 |[],st,a8=>kW st a8
 |i::l,st,a8=> ∃cn,pL cx Γ ops base ar aY i st cn/\n8 cx Γ ops base ar aY l cn a8
theorem n8.congr [Env]: ∀{l:List Nat} {st a8 eo:bz},n8 cx Γ ops base ar aY l st a8->kW st eo->n8 cx Γ ops base ar aY l eo a8
 |[],st,a8,eo,h,e=>e.symm.trans h
 |i::l,st,a8,eo,⟨cn,s,E⟩,e=>by obtain ⟨tH,O,aC⟩:=s.congr e;exact ⟨tH,O,E.congr aC⟩
theorem n8.front [Env]: ∀{dD dr:List Nat} {i:Nat} {st a8:bz},n8 cx Γ ops base ar aY (dD++i::dr) st a8->(∀j∈dD,GL ops aY j i)->n8 cx Γ ops base ar aY (i::(dD++dr)) st a8
 |[],dr,i,st,a8,h,_=>h
 |j::dD,dr,i,st,a8,⟨cn,s,E⟩,aS=>by
  obtain ⟨eo,O,aC⟩:=n8.front E λk af=>aS k (by simp[af])
  obtain ⟨awJ,awK,ba,bF,dN⟩:=swap s O (aS j (by simp));exact ⟨awJ,ba,awK,bF,aC.congr dN⟩
end
open Go.RowKit
theorem tN {l m:List Nat} (h:o4 l m=true): ∀a∈l,a∉m:=by
 induction l with
 |nil=>simp
 |cons b l aQ=>
  simp only[o4,bN,eJ]at h;intro a aS hm;rcases eO.1 aS with rfl |aS
  ·rw[AW.2 hm]at h;cases h.1
  ·exact aQ h.2 a aS hm
theorem ZE {sv:List Nat} {i:Nat} {n:nf}: ∀(l:List nf) (j:Nat),uH.go sv i n j l=true-> ∀k m,l[k]? =some m->(sv.getD (j+k) 0).testBit i=true\/n.apart m=true
 |[],j,h,k,m,hm=>by simp at hm
 |x::l,j,h,k,m,hm=>by
  simp only[uH.go,bN,Bool.or_eq_true]at h;cases k with
  |zero=>
   obtain rfl:x=m:=by simpa using hm
   exact h.1
  |succ k=>
   have:=ZE l (j+1) h.2 k m (by simpa using hm)
   rwa [show j+1+k=j+(k+1) by omega]at this
theorem aaC {sv:List Nat}: ∀(l:List nf) (i:Nat),uH sv i l=true-> ∀a b n m,a<b->l[a]? =some n->l[b]? =some m->(sv.getD (i+b) 0).testBit (i+a)=true\/n.apart m=true
 |[],i,h,a,b,n,m,_,aR,_=>by simp at aR
 |x::l,i,h,a,b,n,m,gu,aR,hm=>by
  simp only[uH,bN]at h;cases b with
  |zero=>omega
  |succ b=>
   cases a with
   |zero=>
    obtain rfl:x=n:=by simpa using aR
    have:=ZE l (i+1) h.1 b m (by simpa using hm)
    rwa [show i+1+b=i+(b+1) by omega]at this
   |succ a=>
    have:=aaC l (i+1) h.2 a b n m (by omega) (by simpa using aR) (by simpa using hm)
    rwa [show i+1+b=i+(b+1) by omega,show i+1+a=i+(a+1) by omega]at this
theorem aas: ∀(l:List Oper) (i:Nat),wZ i l=true-> ∀k o,l[k]? =some o-> ∀e∈o.after.toList,Region.binds .any e=true->e.on<i+k
 |[],i,h,k,o,W,e,he,J=>by simp at W
 |x::l,i,h,k,o,W,e,he,J=>by
  simp only[wZ,bN,fy]at h;cases k with
  |zero=>
   obtain rfl:x=o:=by simpa using W
   have:=h.1 e he;simpa [J] using this
  |succ k=>
   have:=aas l (i+1) h.2 k o (by simpa using W) e he J;omega
theorem abC (f:Edge->Bool) (g:Edge->Nat) (j:Nat): ∀(l:List Edge) (m:Nat),(l.foldl (λm e=>if f e then m ||| g e else m) m).testBit j=true->m.testBit j=true\/ ∃e∈l,f e=true/\(g e).testBit j=true
 |[],m,h=>.inl h
 |e::l,m,h=>by
  simp only[List.foldl_cons]at h;rcases abC f g j l _ h with s |⟨eg,s,E⟩
  ·cases aL:f e
   ·simp only[aL,Bool.false_eq_true,if_false]at s;exact .inl s
   ·simp only[aL,if_true,Nat.testBit_or,Bool.or_eq_true]at s;rcases s with s |s
    ·exact .inl s
    ·exact .inr ⟨e,by simp,aL,s⟩
  ·exact .inr ⟨eg,by simp[s],E⟩
theorem aaH: ∀(l:List Oper) (acc:List Nat),(∀k,k<acc.length->(kt.go l acc)[k]? =acc[k]?)/\
  ∀k o,l[k]? =some o-> ∀j,((kt.go l acc).getD (acc.length+k) 0).testBit j=true-> ∃e∈o.after.toList,Region.binds .any e=true/\(j=e.on\/(e.on<acc.length+k/\((kt.go l acc).getD e.on 0).testBit j=true))
 |[],acc=>⟨λk af=>by simp only[kt.go],λk o W=>by simp at W⟩
 |o::l,acc=>by
  let x:=o.after.toList.foldl (λm e=>bif Region.binds .any e then m ||| (1 <<< e.on) ||| acc.getD e.on 0 else m) 0
  obtain ⟨aeI,avj⟩:=aaH l (acc++[x]);have atZ:kt.go (o::l) acc=kt.go l (acc++[x]):=by simp only[kt.go,x]
  rw[atZ];have keep: ∀k,k<acc.length->(kt.go l (acc++[x]))[k]? =acc[k]? :=λk af=>by rw[aeI k (by simp;omega),List.getElem?_append_left af]
  refine ⟨keep,λk dQ W j an=> ?_⟩;cases k with
  |zero=>
   obtain rfl:o=dQ:=by simpa using W
   have ai:(kt.go l (acc++[x])).getD (acc.length+0) 0=x:=by rw[jH,aeI (acc.length+0) (by simp)];simp
   rw[ai]at an;have kG:(o.after.toList.foldl (λm e=>if Region.binds .any e then m ||| ((1 <<< e.on) ||| acc.getD e.on 0) else m) 0).testBit j=true:=by
    have:(λ(m:Nat) (e:Edge)=>bif Region.binds .any e then m ||| (1 <<< e.on) ||| acc.getD e.on 0 else m)=λm e=>if Region.binds .any e then m ||| ((1 <<< e.on) ||| acc.getD e.on 0) else m:=by
     funext m e
     cases Region.binds .any e
     ·rfl
     ·simp[Nat.or_assoc]
    rw[<-this];exact an
   rcases abC (Region.binds .any) (λe=>(1 <<< e.on) ||| acc.getD e.on 0) j o.after.toList 0 kG with h |⟨e,he,J,adI⟩
   ·simp at h
   ·refine ⟨e,he,J,?_⟩;simp only[Nat.testBit_or,Bool.or_eq_true]at adI;rcases adI with h |h
    ·left;simpa [Nat.one_shiftLeft,Nat.testBit_two_pow] using Eq.symm (by simpa [Nat.one_shiftLeft,Nat.testBit_two_pow] using h:e.on=j)
    ·right;have bd:e.on<acc.length:=by
      rcases Nat.lt_or_ge e.on acc.length with s |s
      ·exact s
      ·simp[jH,List.getElem?_eq_none s]at h
     refine ⟨by omega,?_⟩;rw[jH,keep e.on bd,<-jH];exact h
  |succ k=>
   have af:(acc++[x]).length+k=acc.length+(k+1):=by simp;omega
   have:=avj k dQ (by simpa using W) j (by rw[af];exact an)
   rwa [af]at this
theorem apA {l:List Oper} {k:Nat} {o:Oper} (W:l[k]? =some o) {j:Nat} (h:((kt l).getD k 0).testBit j=true): ∃e∈o.after.toList,Region.binds .any e=true/\(j=e.on\/(e.on<k/\((kt l).getD e.on 0).testBit j=true)):=by have:=(aaH l []).2 k o W j (by simpa [kt] using h);simpa [kt] using this
section
variable {P:cq} {cx:cd} {Γ:hG} {ops:Array Oper} {base ar:Nat}
def qH (V:List nf) (i:Nat):dj:=((V[i]?).map (·.fp)).getD .none
theorem ZN [Env]: ∀(l:List Oper) (i:Nat) (st a8:bz) (V qk:List nf),(AU cx Γ ops base ar i l st V).val=some (a8,qk)->V.length=i->(∀k,l[k]? =ops[i+k]?)->st.heap.length=ar->
  qk.length=i+l.length/\(∀k,k<i->qk[k]? =V[k]?)/\(∀k o n,l[k]? =some o->qk[i+k]? =some n->n.dst=o.dst.toList/\n.uses=rR ops o)/\
   n8 cx Γ ops base ar (qH qk) (List.range' i l.length) st a8
 |[],i,st,a8,V,qk,e,aR,ab,k9=>by simp only[AU,DT.val,bH,cV]at e;obtain ⟨rfl,rfl⟩:=e;exact ⟨by simp[aR],λ_ _=>rfl,λk o n h=>by simp at h,kW.refl _⟩
 |o::l,i,st,a8,V,qk,e,aR,ab,k9=>by
  simp only[AU]at e;obtain ⟨⟨cn,n,fp⟩,L,aa⟩:=DT.val_bind_some e;simp only at aa;cases J:Nat.ble n (base+slotsOf*i+slotsOf)&&E2 ar fp
  ·simp[J,DT.val]at aa
  ·simp only[J,ak]at aa;simp only[bN]at J;have bd:=rZ.of J.2;have W:ops[i]? =some o:=by simpa using (ab 0).symm
   have hlen:cn.heap.length=ar:=by obtain ⟨b,r,aC,ba,bF⟩:=abs L;obtain ⟨hM,-,avr,-⟩:=FH _ st.heap st.heap _ _ _ _ _ ba (by rw[k9];exact bd) rfl (λ_ _=>rfl) (λ_ _=>rfl);rw[avr.len,k9]
   obtain ⟨bj,bG,dm,cJ⟩:=ZN l (i+1) cn a8 _ qk aa (by simp[aR]) (λk=>by have:=ab (k+1);simpa [Nat.add_assoc,Nat.add_comm 1 k] using this) hlen
   have u:qk[i]? =some ⟨o.dst.toList,rR ops o,fp⟩:=by rw[bG i (by omega),List.getElem?_append_right (by omega)];simp[aR]
   have adU:qH qk i=fp:=by simp[qH,u]
   refine ⟨by rw[bj];simp;omega,λk af=>by rw[bG k (by omega),List.getElem?_append_left (by omega)],λk dQ aI af x3=> ?_,⟨cn,⟨⟨o,n,W,by rw[adU];exact L,by simpa using J.1⟩,by rw[adU];exact bd,k9⟩,cJ⟩⟩;cases k with
   |zero=>
    obtain rfl:o=dQ:=by simpa using af
    rw[Nat.add_zero,u]at x3;obtain rfl:=eW x3;exact ⟨rfl,rfl⟩
   |succ k=>
    exact dm k dQ aI (by simpa using af) (by rw[show i+1+k=i+(k+1) by omega];exact x3)
variable {nt:js} {aY:Nat->dj}
theorem ds.congr [Env] {φ:bJ} {ι:Nat->az} {w:bh} {st a8:bz} {a:Act} (d:ds φ ι w nt st a) (e:kW st a8):ds φ ι w nt a8 a:=
 ⟨by rw[<-e.2];exact d.heap,λI r h=>by rw[<-e.2];exact d.regs I r (by rw[e.1 I];exact h),d.nt,d.small,by rw[<-e.2];exact d.defers⟩
theorem aqw [Env] (tab:cQ P cx) (c1:ca P Γ) {bD:Exit->Act->bh->Prop} {tI:bz} (QK:ops.toList.all (pT nt.n)=true) (atO:wZ 0 ops.toList=true)
  (sQ: ∀a b,a<b->b<ops.size->((kt ops.toList).getD b 0).testBit a=true\/GL ops aY a b) (k9:base+slotsOf*ops.size<=ar)
  {TC:bJ} {zx:Nat->az} {hW:bh} {wy:List aF}
  (k: ∀bn ao av aH,ds av aH ao nt tI bn->Step TC zx hW wy av aH ao tI.heap->ej zx wy aH tI.heap->bD .normal bn ao):
  ∀(fuel:Nat) (listed:Array Bool) (rest:List Nat) (st:bz) (φ:bJ) (ι:Nat->az) (w:bh) (a:Act),rest.length<=fuel->rest.Pairwise (· < ·)->listed.size=ops.size->(∀i,i∈rest↔(i<ops.size/\listed.getD i true=false))->
   (∀i,i<ops.size->i∉rest-> ∀j,((kt ops.toList).getD i 0).testBit j=true->j∉rest)->(∀i∈rest,∀k,base+slotsOf*i<=k->k<base+slotsOf*i+slotsOf->(aE st.heap k).live=false)->st.heap.length=ar->
   n8 cx Γ ops base ar aY rest st tI->ds φ ι w nt st a->Step TC zx hW wy φ ι w st.heap->ej zx wy ι st.heap->wpAnyIn (eX nt.ro) 0 P .any ops bD fuel listed a w:=by
 intro fuel;have norm: ∀{listed:Array Bool} {rest:List Nat} {st:bz} {φ:bJ} {ι:Nat->az} {w:bh} {a:Act},rest.Pairwise (· < ·)->(∀i,i∈rest↔(i<ops.size/\listed.getD i true=false))->listed.size=ops.size->n8 cx Γ ops base ar aY rest st tI->ds φ ι w nt st a->Step TC zx hW wy φ ι w st.heap->ej zx wy ι st.heap->
   Region.ready .any ops listed=[]->bD .normal a w:=by
  intro listed rest st φ ι w a ae dO dT y0 cg sp bS au;cases rest with
  |nil=>
   have e:kW st tI:=y0;refine k a w φ ι (cg.congr e) ?_ ?_
   ·rw[<-e.2];exact sp
   ·rw[<-e.2];exact bS
  |cons i rest=>
   exfalso;have u:=(dO i).1 (by simp);have:i∈Region.ready .any ops listed:=by
    unfold Region.ready;rw[eV];refine ⟨by simp[u.1],?_⟩;rw[u.2];have H7:ops[i]? =some ops[i]:=Array.getElem?_eq_getElem u.1;simp only[H7,Option.map_some,Option.getD_some,cK,Bool.true_and];rw[Array.all_eq_true'];intro e he;cases J:Region.binds .any e
    ·rfl
    ·simp only[cP,Bool.false_or];have bd:=aas ops.toList 0 atO i ops[i] (by simp) e (by simpa using he) J;have nA:e.on∉i::rest:=by
      intro hm;rcases eO.1 hm with h |h
      ·omega
      ·have:=(List.pairwise_cons.1 ae).1 e.on h;omega
     have p9:e.on<ops.size:=by omega
     have E: ¬(listed.getD e.on true=false):=λh=>nA ((dO e.on).2 ⟨p9,h⟩)
     have O:e.on<listed.size:=by omega
     simp only[iX,Array.getElem?_eq_getElem O,Option.getD_some]at E ⊢;simpa using E
   rw[au]at this;cases this
 induction fuel with
 |zero=>
  intro listed rest st φ ι w a hle ae dT dO j2 h5 hlen y0 cg sp bS;have:rest=[]:=by
   cases rest with
   |nil=>rfl
   |cons a l=>simp at hle
  subst this;have au:Region.ready .any ops listed=[]:=by unfold Region.ready;rw[List.filter_eq_nil_iff];intro i u aw;simp only[bN,eJ]at aw;have:=(dO i).2 ⟨by simpa using u,aw.1⟩;cases this
  exact ⟨au,norm ae dO dT y0 cg sp bS au⟩
 |succ fuel aQ=>
  intro listed rest st φ ι w a hle ae dT dO j2 h5 hlen y0 cg sp bS;refine ⟨norm ae dO dT y0 cg sp bS,λi u=> ?_⟩;unfold Region.ready at u;rw[eV]at u;obtain ⟨ix,e8⟩:=u;have ix:i<ops.size:=by simpa using ix
  simp only[bN,eJ]at e8;have HW:=(dO i).2 ⟨ix,e8.1⟩;have H7:ops[i]? =some ops[i]:=Array.getElem?_eq_getElem ix;have adP: ∀e∈ops[i].after.toList,Region.binds .any e=true->e.on∉rest:=by
   intro e he J hm;have E:=e8.2;simp only[H7,Option.map_some,Option.getD_some]at E;rw[Array.all_eq_true']at E;have O:=E e (by simpa using he);simp only[J,cP,Bool.false_or]at O;have aC:=((dO e.on).1 hm);have ba:e.on<listed.size:=by omega
   have bF:=aC.2;simp only[iX,Array.getElem?_eq_getElem ba,Option.getD_some]at O bF;rw[O]at bF;cases bF
  have adH: ∀j,((kt ops.toList).getD i 0).testBit j=true->j∉rest:=by
   intro j an;obtain ⟨e,he,J,h⟩:=apA (o:=ops[i]) (by simp) an;rcases h with rfl |⟨s,E⟩
   ·exact adP e he J
   ·exact j2 e.on (by omega) (adP e he J) j E
  obtain ⟨dD,dr,rfl⟩:=List.append_of_mem HW;rw[List.pairwise_append]at ae;obtain ⟨s1,s2,jq⟩:=ae;rw[List.pairwise_cons]at s2;have axe:=n8.front y0 λj an=>(sQ j i (jq j an i (by simp)) ix).resolve_left λh=>adH j h (dk.2 (.inl an))
  obtain ⟨cn,gS,axf⟩:=axe;obtain ⟨o,aI,W,he,x3⟩:=gS.ex;have auA:o=ops[i]:=by rw[H7]at W;exact (eW W).symm
  have hmul:slotsOf*i+slotsOf<=slotsOf*ops.size:=by
   have:=Nat.mul_le_mul_left slotsOf ix
   rwa [Nat.mul_succ]at this
  have atM:pT nt.n o=true:=by rw[auA];exact fy.1 QK _ (by simp)
  have ea:iZ st.heap (base+slotsOf*i) aI:=⟨by omega,λk s E=>h5 i (by simp) k s (by omega)⟩;have sX:=MU tab c1 he cg ea atM (ib:=wpAnyIn (eX nt.ro) 0 P .any ops bD fuel (listed.setIfInBounds i true)) (bD:=bD) λbn ao av aH cR awY avl avE=>by
   have cC: ∀j,j∈dD++dr->j≠i:=by
    rintro j an rfl;rcases dk.1 an with h |h
    ·have:=jq j h j (by simp);omega
    ·have:=s2.1 j h;omega
   have qa: ∀j,j∈dD++dr↔(j∈dD++i::dr/\j≠i):=by
    intro j;constructor
    ·intro h;refine ⟨?_,cC j h⟩;rcases dk.1 h with h |h
     ·exact dk.2 (.inl h)
     ·exact dk.2 (.inr (by simp[h]))
    ·rintro ⟨h,pk⟩;rcases dk.1 h with h |h
     ·exact dk.2 (.inl h)
     ·exact dk.2 (.inr (by simpa [pk] using h))
   refine aQ (listed.setIfInBounds i true) (dD++dr) cn av aH ao bn (by simp at hle ⊢;omega) ?_ (by simp[dT]) (λj=> ?_) (λj an auu b J=> ?_) (λj an c2 s E=> ?_) (by rw[gS.left.len,hlen]) axf cR (sp.trans awY) (bS.trans avl)
   ·rw[List.pairwise_append];exact ⟨s1,s2.2,λx ai y bo=>jq x ai y (by simp[bo])⟩
   ·rw[qa,dO];simp only[iX,Array.getElem?_setIfInBounds];by_cases pk:i=j
    ·subst pk;have:i<listed.size:=by omega
     simp[this]
    ·simp only[if_neg pk];constructor
     ·rintro ⟨h,-⟩;exact h
     ·intro h;exact ⟨h,λcu=>pk cu.symm⟩
   ·intro hm;have Cy:=((qa b).1 hm).1;by_cases pk:j=i
    ·subst pk;exact adH b J Cy
    ·exact j2 j an (λh=>auu ((qa j).2 ⟨h,pk⟩)) b J Cy
   ·have kG:=(qa j).1 an;have pk:=kG.2;have:c2<base+slotsOf*i\/aI<=c2:=by
     rcases Nat.lt_or_ge j i with h |h
     ·left;have:=Nat.mul_le_mul_left slotsOf h;rw[Nat.mul_succ]at this;omega
     ·right;have pj:i<j:=by omega
      have:=Nat.mul_le_mul_left slotsOf pj;rw[Nat.mul_succ]at this;omega
    rw[avE.same c2 this];exact h5 j kG.1 c2 s E
  unfold wpOpIn;rw[W];simp only;split
  ·rename_i h;rw[if_pos h]at sX;exact sX
  ·rename_i h;rw[if_neg h]at sX;exact ⟨λ_ _=>trivial,sX⟩
end
open Go.RowKit
theorem tL (t:aB) (x:t.den):t.cast? t x=some x:=by simp[aB.cast?]
theorem Z2: ∀(nb:List aB) (l:List eD) (c:(chain nb).den),wY nb l=some c->(chain nb).parts c=l
 |[],[],c,h=>rfl
 |[],_::_,c,h=>by simp[wY]at h
 |_::_,[],c,h=>by simp[wY]at h
 |t::nb,I::l,c,h=>by
  simp only[wY]at h;split at h
  ·rename_i x y ai bo;obtain rfl:=eW h;obtain ⟨e,aeB⟩:=rJ ai;obtain ⟨ad,z⟩:=I;simp only at e;subst e;simp only at aeB;have:=Z2 nb l y bo;simp only[chain,aB.parts,this,aeB]
  ·cases h
mutual
theorem cm.dec_enc: ∀(d:cm) (r:K) (l rest:List eD),d.dec r=some l->d.enc (l++rest)=some (r,rest)
 | .dat t,r,l,rest,h=>by
  cases r<;>simp only[cm.dec,reduceCtorEq]at h;rename_i ad x;cases J:decide (ad=t)
  ·simp[J]at h
  ·simp only[J,ak,bH]at h;have e:ad=t:=by simpa using J
   subst e h;simp[cm.enc,mw,tL]
 | .clip t,r,l,rest,h=>by
  cases r<;>simp only[cm.dec,reduceCtorEq]at h;rename_i ad x;cases J:decide (ad=t)
  ·simp[J]at h
  ·simp only[J,ak,bH]at h;have e:ad=t:=by simpa using J
   subst e h;simp[cm.enc,mw,tL]
 | .own t o,r,l,rest,h=>by
  cases r<;>simp only[cm.dec,reduceCtorEq]at h;rename_i ad dQ;cases J:decide (ad=t)&&Nat.beq o dQ
  ·simp[J]at h
  ·simp only[J,ak,bH]at h;simp only[bN,dJ,Nat.beq_eq]at J;obtain ⟨L,aa⟩:=J;subst L aa h;simp[cm.enc]
 | .ptr o t i p,r,l,rest,h=>by
  cases r<;>simp only[cm.dec,reduceCtorEq]at h;rename_i dQ iB rk hf;cases J:Nat.beq o dQ&&decide (t=iB)&&Nat.beq i rk&&decide (p=hf)
  ·simp[J]at h
  ·simp only[J,ak,bH]at h;simp only[bN,dJ,Nat.beq_eq]at J;obtain ⟨⟨⟨L,aa⟩,a1⟩,bq⟩:=J;subst L aa a1 bq h;simp[cm.enc]
 | .agg d,r,l,rest,h=>by cases r<;>simp only[cm.dec,reduceCtorEq]at h;rename_i m;simp[cm.enc,cm.decL_enc d m l rest h]
 | .fn f a b,r,l,rest,h=>by
  cases r<;>simp only[cm.dec,reduceCtorEq]at h;rename_i g x y;cases J:Nat.beq f g
  ·simp[J]at h
  ·simp only[J,ak]at h;have e:f=g:=by simpa using J
   subst e;split at h
   ·rename_i dD s;obtain ⟨m,hm,rfl⟩:=h7.1 h;have bb:=cm.decL_enc a x dD (m++rest) s;have aU:=cm.decL_enc b y m rest hm;simp only[cm.enc,List.append_assoc,bb,aU,Option.map_some]
   ·cases h
 | .iface T d,r,l,rest,h=>by
  cases r<;>simp only[cm.dec,reduceCtorEq]at h;rename_i U x;cases J:Nat.beq T U
  ·simp[J]at h
  ·simp only[J,ak]at h;have e:T=U:=by simpa using J
   subst e;simp[cm.enc,cm.dec_enc d x l rest h]
 | .nils e t,r,l,rest,h=>by
  cases r<;>simp only[cm.dec,reduceCtorEq]at h;rename_i eg iB;cases J:Nat.beq e eg&&decide (t=iB)
  ·simp[J]at h
  ·simp only[J,ak,bH]at h;simp only[bN,dJ,Nat.beq_eq]at J;obtain ⟨L,aa⟩:=J;subst L aa h;simp[cm.enc]
 | .nilI,r,l,rest,h=>by cases r<;>simp only[cm.dec,reduceCtorEq]at h;obtain rfl:=eW h;rfl
 | .dfr f a b t,r,l,rest,h=>by
  cases r<;>simp only[cm.dec,reduceCtorEq]at h;rename_i g x y ad xs;cases J:Nat.beq f g&&decide (ad=t)
  ·simp[J]at h
  ·simp only[J,ak]at h;simp only[bN,dJ,Nat.beq_eq]at J;obtain ⟨L,aa⟩:=J;subst L aa;split at h
   ·rename_i dD s;split at h
    ·rename_i dr E;obtain rfl:=eW h;have bj:=cm.decL_enc a x dD (dr++(⟨.list ad,xs⟩::rest)) s;have bG:=cm.decL_enc b y dr (⟨.list ad,xs⟩::rest) E;have b6:dD++(dr++[⟨.list ad,xs⟩])++rest=dD++(dr++(⟨.list ad,xs⟩::rest)):=by simp
     rw[b6];simp[cm.enc,bj,bG,mw,aB.cast?]
    ·cases h
   ·cases h
 | .yld Y o,r,l,rest,h=>by
  cases r<;>simp only[cm.dec,reduceCtorEq]at h;rename_i r8 dQ;cases J:Nat.beq Y r8&&Nat.beq o dQ
  ·simp[J]at h
  ·simp only[J,ak,bH]at h;simp only[bN,Nat.beq_eq]at J;obtain ⟨L,aa⟩:=J;subst L aa h;simp[cm.enc]
 | .nilF,r,l,rest,h=>by cases r<;>simp only[cm.dec,reduceCtorEq]at h;obtain rfl:=eW h;rfl
 | .nilP,r,l,rest,h=>by cases r<;>simp only[cm.dec,reduceCtorEq]at h;obtain rfl:=eW h;rfl
 | .undef,r,l,rest,h=>by cases r<;>simp only[cm.dec,reduceCtorEq]at h;obtain rfl:=eW h;rfl
theorem cm.decL_enc: ∀(d:List cm) (r:List K) (l rest:List eD),cm.decL d r=some l->cm.encL d (l++rest)=some (r,rest)
 |[],[],l,rest,h=>by simp only[cm.decL,bH]at h;subst h;rfl
 |[],_::_,l,rest,h=>by simp[cm.decL]at h
 |_::_,[],l,rest,h=>by simp[cm.decL]at h
 |d::mu,r::rs,l,rest,h=>by
  simp only[cm.decL]at h;split at h
  ·rename_i a aS;obtain ⟨b,J,rfl⟩:=h7.1 h;have bb:=cm.dec_enc d r a (b++rest) aS;have aU:=cm.decL_enc mu rs b rest J;simp only[cm.encL,List.append_assoc,bb,aU,Option.map_some]
  ·cases h
end
theorem rD: ∀(d:List (Nat×cm)) (R:bO) (l rest:List eD),iV d R=some l->qw d (l++rest)=some (R,rest)
 |[],[],l,rest,h=>by simp only[iV,bH]at h;subst h;rfl
 |[],_::_,l,rest,h=>by simp[iV]at h
 |_::_,[],l,rest,h=>by simp[iV]at h
 |(I,d)::mu,(e,r)::rs,l,rest,h=>by
  simp only[iV]at h;cases J:Nat.beq I e
  ·simp[J]at h
  ·simp only[J,ak]at h;have e:I=e:=by simpa using J
   subst e;split at h
   ·rename_i a aS;obtain ⟨b,J,rfl⟩:=h7.1 h;have bb:=cm.dec_enc d r a (b++rest) aS;have aU:=rD mu rs b rest J;simp only[qw,List.append_assoc,bb,aU,Option.map_some]
   ·cases h
theorem dX.dec_enc (d:dX) (b:aF) (l rest:List eD) (h:d.dec b=some l):d.enc (l++rest)=some (b,rest):=by
 cases d with
 |arr e t fz=>
  cases b<;>simp only[dX.dec,reduceCtorEq]at h;rename_i eg ad xs kF;cases J:Nat.beq e eg&&decide (ad=t)&&decide (fz=kF)
  ·simp[J]at h
  ·simp only[J,ak,bH]at h;simp only[bN,dJ,Nat.beq_eq]at J;obtain ⟨⟨L,aa⟩,a1⟩:=J;subst L aa a1 h;simp[dX.enc,mw,tL]
 |box T t r=>
  cases b<;>simp only[dX.dec,reduceCtorEq]at h;rename_i EK iB d;cases J:Nat.beq T EK&&decide (t=iB)
  ·simp[J]at h
  ·simp only[J,ak]at h;simp only[bN,dJ,Nat.beq_eq]at J;obtain ⟨L,aa⟩:=J;subst L aa;simp[dX.enc,cm.dec_enc r d l rest h]
 |iter=>
  cases b<;>simp only[dX.dec,reduceCtorEq,bH]at h;subst h;simp[dX.enc,mw,tL]
 |gone=>
  cases b<;>simp only[dX.dec,reduceCtorEq,bH]at h;subst h;simp[dX.enc]
 |loop Y R=>
  cases b<;>simp only[dX.dec,reduceCtorEq]at h;rename_i r8 eH p;cases J:Nat.beq Y r8
  ·simp[J]at h
  ·simp only[J,ak]at h;have e:Y=r8:=by simpa using J
   subst e;obtain ⟨m,hm,rfl⟩:=h7.1 h;have bb:=rD R eH m ([⟨.int .i64,p⟩]++rest) hm;rw[List.append_assoc];simp only[dX.enc,bb];simp only[mw,List.cons_append,List.nil_append,tL,Option.map_some]
theorem aaP: ∀(d:List dX) (R:List aF) (l rest:List eD),fR d R=some l->xd d (l++rest)=some (R,rest)
 |[],[],l,rest,h=>by simp only[fR,bH]at h;subst h;rfl
 |[],_::_,l,rest,h=>by simp[fR]at h
 |_::_,[],l,rest,h=>by simp[fR]at h
 |d::mu,r::rs,l,rest,h=>by
  simp only[fR]at h;split at h
  ·rename_i a aS;obtain ⟨b,J,rfl⟩:=h7.1 h;have bb:=dX.dec_enc d r a (b++rest) aS;have aU:=aaP mu rs b rest J;simp only[xd,List.append_assoc,bb,aU,Option.map_some]
  ·cases h
theorem Shape.dec_enc {S:Shape} {st:bz} {d:S.ty.den} (h:S.dec st=some d):S.enc d=st:=by
 unfold Shape.dec at h;cases aS:iV S.regs st.regs with
 |none=>simp[aS]at h
 |some a=>
  cases J:fR S.objs st.heap with
  |none=>simp[aS,J]at h
  |some b=>
   simp only[aS,J]at h;have aP:S.ty.parts d=a++b:=Z2 _ _ d h;unfold Shape.enc;rw[aP,rD _ _ a b aS];have:=aaP _ _ b [] J;rw[List.append_nil]at this;simp only[this]
open Go.RowKit
structure gZ [Env] (φ:bJ) (ι:Nat->az) (w:bh) (H:List aF) (n:Nat) (av:bJ) (aH:Nat->az) (aA:List aF) (aI:Nat):Prop where
 rel:cc av aH w aA
 step:Step φ ι w H av aH w aA
 keep:ej ι H aH aA
 top:aI=aA.length
section
variable {φ:bJ} {ι:Nat->az} {w:bh} {H:List aF} {n:Nat} {aA:List aF} {aI:Nat}
theorem gZ.refl [Env] (h:cc φ ι w H) (aR:n=H.length):gZ φ ι w H n φ ι H n:=⟨h,Step.refl _ _ _ _,ej.refl _ _,aR⟩
theorem gZ.trans [Env] {dy:bJ} {fg:Nat->az} {H1:List aF} {c8:Nat} {ec:bJ} {ei:Nat->az} {e3:List aF} {dP:Nat} (a:gZ φ ι w H n dy fg H1 c8) (b:gZ dy fg w H1 c8 ec ei e3 dP):gZ φ ι w H n ec ei e3 dP:=
 ⟨b.rel,a.step.trans b.step,a.keep.trans b.keep,b.top⟩
theorem gZ.ghost [Env] {av:bJ} (g:e2 φ ι w H av aA) (aR:n=H.length):gZ φ ι w H n av ι aA n:=⟨g.rel,g.step,g.keep,by rw[g.len,aR]⟩
theorem gZ.of_yld [Env] {r:K} {v:az} (y:cD φ ι w H n r aA aI (.ok v w)) (aR:n=H.length): ∃av aH,gZ φ ι w H n av aH aA aI/\r.rel av aH w v/\ ∀i∈r.ids,(aE aA i).live=true:=by
 obtain ⟨lq,ao,av,aH,e,s,E,O,aC,ba,bF⟩:=y;injection e with L aa
 subst L aa;exact ⟨av,aH,⟨s,E,O,(aC.seq aR).symm⟩,ba,bF⟩
theorem aqZ [Env] (h:cc φ ι w H) {t ad:aB} {o u:Nat} {e:bm} {xs:List ad.den} {v:az} (au:(K.view t o 0 u).rel φ ι w v) (W:aE H o=.arr e ad xs false) (aR:n=H.length):
  ∃av aH,gZ φ ι w H n av aH (bY (bY H o .gone) n (.arr e ad (xs.take u) false)) (n+1)/\(K.own ad n).rel av aH w v/\ ∀i∈(K.own ad n).ids,(aE (bY (bY H o .gone) n (.arr e ad (xs.take u) false)) i).live=true:=by
 obtain ⟨A,m,c,dg,L,b8,s,E,rfl,O,aC⟩:=au;have dv:=h.obj o;rw[W]at dv;obtain ⟨jr,c6,aX,f1,f2,f3,f4,f5⟩:=dv;rw[L]at f1;obtain ⟨rfl,rfl,rfl⟩:=iG f1;have oy:(aE H o).owns=true:=by rw[W];rfl
 have h5:(aE H n).live=false:=by rw[aR,pv (b7 _)];rfl
 have B8:c≠0->dg=A:=by intro aw;obtain ⟨b,bw,J⟩:=aC aw;rw[O aw,J];simp[hv]
 obtain ⟨bb,aU,ck,ep⟩:=w1 (av:=φ) (ao:=w) h oy (by omega) h5 (v:=.slice dg (u-0) (c-0)) (dd:=.arr e ad (xs.take u) false) rfl rfl rfl rfl rfl (b7 _) (λ_ _ _=>rfl) (λ_ _ h=>h) (λ_ _ _=>rfl) (λ_ _ h=>.inl h)
  (λb J=>by
   right;rw[L];by_cases aw:c=0
   ·subst aw;cases dg<;>simp[dG]at J
   ·rw[B8 aw]at J;cases A<;>simp[dG,aw]at J ⊢;exact J)
  (by
   refine ⟨dg,u-0,c-0,by simp[ee],by simp;omega,by omega,by omega,?_⟩;rcases f5 with f5 |⟨b,pre,cur,c0,g1,g2,g3,g4,g0,g5,g6,g7,g8⟩
   ·left;omega
   ·by_cases aw:c=0
    ·left;omega
    ·right;refine ⟨b,pre,cur,c0,(B8 aw).trans g1,g2,by simpa using g3,g4,g0,⟨g5.one,g5.at_ g6 _⟩,?_,λk af=>(by have:=(g7 k af).1;cases this),λh=>(by cases h)⟩;have:=g6.take (λx c=>bt.len ad x c) u;rw[List.take_take]at this;rw[Nat.sub_zero]
     rwa [Nat.min_eq_left (gW _ s)]at this)
 refine ⟨φ,_,⟨bb,aU,ck,(ep.seq aR).symm⟩,uK ⟨by simp[ee],_,_,_,rfl⟩,?_⟩;intro i u;have:i=n:=by simpa [K.ids] using u
 subst this;have ab:(bY H o .gone).length=H.length:=ie H o _ (gB (by rw[W];rfl));rw[gA _ i _ i (by omega),if_pos rfl];rfl
theorem aqY [Env] (h:cc φ ι w H) {ad:aB} {o aM u:Nat} {e:bm} {xs:List ad.den} {v:az} (au:(K.view ad o aM u).rel φ ι w v) (W:aE H o=.arr e ad xs false) (aR:n=H.length):
  ∃av aH,gZ φ ι w H n av aH (bY (bY H o .gone) n (.arr e ad ((xs.take u).drop aM) false)) (n+1)/\(K.own ad n).rel av aH w v/\ ∀i∈(K.own ad n).ids,(aE (bY (bY H o .gone) n (.arr e ad ((xs.take u).drop aM) false)) i).live=true:=by
 obtain ⟨A,m,c,dg,L,b8,s,E,rfl,O,aC⟩:=au;have dv:=h.obj o;rw[W]at dv;obtain ⟨jr,c6,aX,f1,f2,f3,f4,f5⟩:=dv;rw[L]at f1;obtain ⟨rfl,rfl,rfl⟩:=iG f1;have oy:(aE H o).owns=true:=by rw[W];rfl
 have h5:(aE H n).live=false:=by rw[aR,pv (b7 _)];rfl
 have B8:c≠aM-> ∃b bw,A=some ⟨b,bw,none⟩/\dg=some ⟨b,bw+aM*ad.size,none⟩:=by intro aw;obtain ⟨b,bw,J⟩:=aC (by omega);refine ⟨b,bw,J,?_⟩;rw[O aw,J];simp[hv]
 obtain ⟨bb,aU,ck,ep⟩:=w1 (av:=φ) (ao:=w) h oy (by omega) h5 (v:=.slice dg (u-aM) (c-aM)) (dd:=.arr e ad ((xs.take u).drop aM) false) rfl rfl rfl rfl rfl (b7 _) (λ_ _ _=>rfl) (λ_ _ h=>h) (λ_ _ _=>rfl) (λ_ _ h=>.inl h)
  (λb J=>by
   right;rw[L];by_cases aw:c=aM
   ·rw[aw,Nat.sub_self]at J;cases dg<;>simp[dG]at J
   ·obtain ⟨bQ,bw,rfl,rfl⟩:=B8 aw;have bd:aM<c:=Nat.lt_of_le_of_ne (Nat.le_trans b8 (Nat.le_trans s E)) (Ne.symm aw);have oq:c-aM≠0:=Nat.sub_ne_zero_of_lt bd;have lK:c≠0:=Nat.pos_iff_ne_zero.1 (Nat.lt_of_le_of_lt (Nat.zero_le aM) bd);simp only[dG,if_neg oq,if_neg lK]at J ⊢;exact J)
  (by
   refine ⟨dg,u-aM,c-aM,by simp[ee],by simp;omega,by omega,by omega,?_⟩;by_cases aw:c=aM
   ·left;omega
   ·rcases f5 with f5 |⟨b,pre,cur,c0,g1,g2,g3,g4,g0,g5,g6,g7,g8⟩
    ·left;omega
    ·right;obtain ⟨bQ,bw,bj,bG⟩:=B8 aw;rw[g1]at bj;injection bj with bj
     injection bj with bj Sn
     subst bj Sn;have ad7:aM*ad.size<=cur.toList.length:=by rw[iu,g3];exact gW _ (by omega)
     have auT:(pre.toList++cur.toList.take (aM*ad.size)).toArray++(cur.toList.drop (aM*ad.size)).toArray=pre++cur:=by apply Array.ext';simp
     have aek:((pre.toList++cur.toList.take (aM*ad.size)).toArray).size=pre.size+aM*ad.size:=by simp only[List.size_toArray,fr,eG,iu]at ad7 ⊢;omega
     have p4:((cur.toList.drop (aM*ad.size)).toArray).size=cur.size-aM*ad.size:=by simp
     rw[iu]at ad7;have hmul:(u-aM)*ad.size=u*ad.size-aM*ad.size:=Nat.sub_mul _ _ _;have ayI:aM*ad.size<=u*ad.size:=gW _ b8;refine ⟨b,(pre.toList++cur.toList.take (aM*ad.size)).toArray,(cur.toList.drop (aM*ad.size)).toArray,c0,by rw[bG,aek],by rw[auT];exact g2,by rw[p4,g3,<-Nat.sub_mul],by rw[aek,p4,show pre.size+aM*ad.size+(cur.size-aM*ad.size)=pre.size+cur.size by omega];exact g4,?_,⟨?_,?_⟩,?_,λk af=>(by have:=(g7 k af).1;cases this),λh=>(by cases h)⟩
     ·intro x ai;rcases dk.1 ai with ai |ai
      ·exact g0 x ai
      ·exact g5.one x (List.mem_of_mem_take ai)
     ·intro x ai;exact g5.one x (List.mem_of_mem_drop ai)
     ·have:=g5.at_ g6 u;refine this.imp id λ⟨eC,bI⟩=>⟨eC,?_⟩
      show cY _ _ ((cur.toList.drop (aM*ad.size)).drop ((u-aM)*ad.size));rw[List.drop_drop,show aM*ad.size+(u-aM)*ad.size=u*ad.size by omega];exact bI
     ·have:=(g6.take (λx c=>bt.len ad x c) u).drop (λx c=>bt.len ad x c) aM;have o7:(cur.toList.take (u*ad.size)).drop (aM*ad.size)=(cur.toList.drop (aM*ad.size)).take ((u-aM)*ad.size):=by rw[List.drop_take,hmul]
      rw[List.take_take,Nat.min_eq_left (gW _ s),o7]at this;exact this)
 refine ⟨φ,_,⟨bb,aU,ck,(ep.seq aR).symm⟩,uK ⟨by simp[ee],_,_,_,rfl⟩,?_⟩;intro i u;have:i=n:=by simpa [K.ids] using u
 subst this;have ab:(bY H o .gone).length=H.length:=ie H o _ (gB (by rw[W];rfl));rw[gA _ i _ i (by omega),if_pos rfl];rfl
mutual
theorem My [Env]: ∀(d:cm) (r gN:K) (v:az) (φ:bJ) (ι:Nat->az) (H:List aF) (n:Nat) (aA:List aF) (aI:Nat),(A4 d r).go H n=some (gN,aA,aI)->n=H.length->cc φ ι w H->r.rel φ ι w v->(∀i∈r.ids,(aE H i).live=true)->
  ∃av aH,gZ φ ι w H n av aH aA aI/\gN.rel av aH w v/\ ∀i∈gN.ids,(aE aA i).live=true:=by
 intro d r gN v φ ι H n aA aI e aR h au ab;unfold A4 at e;split at e
 ·rename_i t r;obtain ⟨x,H1,c8,L,aa⟩:=HM.go_bind_some e;obtain ⟨rfl,rfl,rfl⟩:=go_ret aa;have q:=Fv L h au ab;clear L e aa;obtain ⟨s,dy,g,aZ⟩:=q;subst s;exact ⟨dy,ι,gZ.ghost g aR,h3 aZ,by simp[K.ids]⟩
 ·rename_i a b b6 t;simp only[HM.go]at e;obtain ⟨rfl,rfl,rfl⟩:=go_ret e;have au:v=.slice none 0 0:=au;subst au;exact gZ.of_yld (UD h (by omega) (by rw[aR,pv (b7 _)];rfl)) aR
 ·rename_i a b t o u;simp only[HM.go]at e;split at e
  ·rename_i b6 ad xs W;simp only[HM.go]at e;obtain ⟨rfl,rfl,rfl⟩:=go_ret e;exact aqZ h au W aR
  ·simp[HM.go]at e
 ·rename_i a b t o aM u _;simp only[HM.go]at e;split at e
  ·rename_i b6 ad xs W;have q:=go_bif e;clear e;obtain ⟨hu,e⟩:=q;have hu:ad=t:=by simpa using hu
   subst hu;simp only[HM.go]at e;obtain ⟨rfl,rfl,rfl⟩:=go_ret e;exact aqY h au W aR
  ·simp[HM.go]at e
 ·rename_i l m;obtain ⟨rA,H1,c8,L,aa⟩:=HM.go_bind_some e;obtain ⟨rfl,rfl,rfl⟩:=go_ret aa;obtain ⟨cs,rfl,au⟩:=au;obtain ⟨dy,fg,t,bb,aU⟩:=Yu l m rA cs.toList φ ι H n _ _ L aR h au (λi u=>ab i (by simpa [K.ids] using u));exact ⟨dy,fg,t,Gz ⟨cs,rfl,bb⟩,λi u=>aU i (by simpa [K.ids] using u)⟩
 ·obtain ⟨rfl,rfl,rfl⟩:=go_ret e;exact ⟨φ,ι,gZ.refl h aR,au,ab⟩
theorem Yu [Env]: ∀(d:List cm) (l fB:List K) (cs:List az) (φ:bJ) (ι:Nat->az) (H:List aF) (n:Nat) (aA:List aF) (aI:Nat),(Gm d l).go H n=some (fB,aA,aI)->n=H.length->cc φ ι w H->K.relL φ ι w l cs->(∀i∈K.idsL l,(aE H i).live=true)->
  ∃av aH,gZ φ ι w H n av aH aA aI/\K.relL av aH w fB cs/\ ∀i∈K.idsL fB,(aE aA i).live=true:=by
 intro d l fB cs φ ι H n aA aI e aR h au ab;unfold Gm at e;split at e
 ·rename_i d mu r rs;obtain ⟨ah,H1,c8,L,aa⟩:=HM.go_bind_some e;obtain ⟨dD,e3,dP,a1,bq⟩:=HM.go_bind_some aa;obtain ⟨rfl,rfl,rfl⟩:=go_ret bq;obtain ⟨v,aX,rfl,s,E⟩:=au;obtain ⟨dy,fg,t1,bb,aU⟩:=My d r ah v φ ι H n H1 c8 L aR h s (λi u=>ab i (by simp[K.idsL,u]));obtain ⟨ec,ei,t2,ck,ep⟩:=Yu mu rs dD aX dy fg H1 c8 _ _ a1 t1.top t1.rel (K.relL_mono t1.step.phi t1.step.cells rs aX (λi u=>t1.keep.iota i (ab i (by simp[K.idsL,u]))) E) (λi u=>t1.keep.live i (ab i (by simp[K.idsL,u])));refine ⟨ec,ei,t1.trans t2,⟨v,aX,rfl,K.rel_step t2.step t2.keep aU bb,ck⟩,λi u=> ?_⟩;simp only[K.idsL,dk]at u;rcases u with u |u
  ·exact t2.keep.live i (aU i u)
  ·exact ep i u
 ·obtain ⟨rfl,rfl,rfl⟩:=go_ret e;exact ⟨φ,ι,gZ.refl h aR,au,ab⟩
end
end
open Go.RowKit
def mH (φ:bJ) (ι:Nat->az) (w:bh) (H:List aF) (R:bO) (jQ:Nat->az):Prop:= ∀I r,R.get I=some r->r.rel φ ι w (jQ I)/\ ∀i∈r.ids,(aE H i).live=true
def ic (m:Nat) (ι:Nat->az) (H:List aF) (aH:Nat->az) (aA:List aF):Prop:= ∀o,o<m->(aE H o).live=true->aH o=ι o/\(aE aA o).live=true
def gM (m:Nat) (H:List aF):Prop:= ∀o,o<m->(aE H o).live=true
theorem ej.keepM {ι aH:Nat->az} {H aA:List aF} (k:ej ι H aH aA) (m:Nat):ic m ι H aH aA:=λo _ h=>⟨k.iota o h,k.live o h⟩
theorem ic.refl (m:Nat) (ι:Nat->az) (H:List aF):ic m ι H ι H:=λ_ _ h=>⟨rfl,h⟩
theorem ic.trans {m:Nat} {ι aH hF:Nat->az} {H aA mC:List aF} (h:ic m ι H aH aA) (k:ic m aH aA hF mC):ic m ι H hF mC:=
 λo W ab=>let ⟨s,E⟩:=h o W ab;let ⟨bb,aU⟩:=k o W E;⟨bb.trans s,aU⟩
theorem ic.live {m:Nat} {ι aH:Nat->az} {H aA:List aF} (k:ic m ι H aH aA) (l:gM m H):gM m aA:=λo W=>(k o W (l o W)).2
section
variable {φ:bJ} {ι:Nat->az} {w:bh} {H:List aF} {n:Nat} {aA:List aF} {aI:Nat} {jQ:Nat->az}
theorem mH.step {av:bJ} {aH:Nat->az} {ao:bh} {R:bO} (d:Step φ ι w H av aH ao aA) (k:ej ι H aH aA) (h:mH φ ι w H R jQ):mH av aH ao aA R jQ:=
 λI r au=>⟨K.rel_step d k (h I r au).2 (h I r au).1,λi u=>k.live i ((h I r au).2 i u)⟩
theorem alW [Env]: ∀(os:List Nat) (mu:List dX) (ad:Unit) (φ:bJ) (ι:Nat->az) (H:List aF) (n:Nat) (aA:List aF) (aI:Nat),(rC os mu).go H n=some (ad,aA,aI)->n=H.length->cc φ ι w H->
  ∃av aH,gZ φ ι w H n av aH aA aI:=by
 intro os mu ad φ ι H n aA aI e aR h
 induction os generalizing mu φ ι H n with
 |nil=>
  unfold rC at e;obtain ⟨-,rfl,rfl⟩:=go_ret e;exact ⟨φ,ι,gZ.refl h aR⟩
 |cons o l aQ=>
  unfold rC at e;split at e
  ·rename_i dQ fB ax9 t0 d m heq;injection heq with bj bG
   subst bj bG;simp only[HM.go]at e;split at e
   ·rename_i lx t1 r J;obtain ⟨gN,H1,c8,L,aa⟩:=HM.go_bind_some e;have dv:=h.obj o;rw[J]at dv;obtain ⟨b,cur,c0,v,g1,g2,g3,g4,g5,g6,g7,g8,g9⟩:=dv;have fa:(aE H o).live=true:=by rw[J];rfl
    obtain ⟨dy,fg,t,bb,aU⟩:=My d r gN v φ ι H n H1 c8 L aR h g6 (λi u=>h.idsB o lx t1 r J i u);clear e L;simp only[HM.go]at aa;split at aa
    ·rename_i T t2 aJ en;have q:=go_bif aa;clear aa;obtain ⟨aL,a1⟩:=q;simp only[HM.go]at a1;have CB:=t.rel.obj o;rw[en]at CB;obtain ⟨bQ,asL,adk,lq,f1,f2,f3,f4,f5,f6,f7,f8,f9⟩:=CB;have Cx:o<H1.length:=gB (by rw[en];rfl);have jh:fg o=ι o:=t.keep.iota o fa;rw[jh,g1]at f1;have p3:b=bQ:=by simpa using f1
     subst p3;have vd:cur=asL/\c0=adk:=by
      rw[g2]at f2;have f2:=eW f2;injection f2 with bj bG dm
      exact ⟨bj,dm⟩
     obtain ⟨rfl,rfl⟩:=vd;have bx: ∀i,aE (bY H1 o (.box T t2 gN)) i=if i=o then .box T t2 gN else aE H1 i:=λi=>gA H1 o _ i (Nat.le_of_lt Cx)
     have mY: ∀i,(aE (bY H1 o (.box T t2 gN)) i).owns=(aE H1 i).owns:=λi=>by
      rw[bx];split
      ·rename_i e;subst e;rw[en];rfl
      ·rfl
     have e9: ∀i,(aE (bY H1 o (.box T t2 gN)) i).live=(aE H1 i).live:=λi=>by
      rw[bx];split
      ·rename_i e;subst e;rw[en];rfl
      ·rfl
     have eh:cc dy fg w (bY H1 o (.box T t2 gN)):=by
      refine t.rel.update (λi=>i=o) (λi u=>by rw[bx,if_neg u]) (λ_ _=>rfl) (λi u=>by rw[e9];exact u) (λi u=> ?_) (λi u j an=> ?_) (λ_ _ _ _ _=>rfl) (λ_ _ _=>rfl) (λi j bQ _ s E O aC=> ?_)
      ·subst u;rw[bx,if_pos rfl];exact ⟨b,cur,c0,v,jh.trans g1,f2,f3,f4,f5,bb,g7,aL,f9⟩
      ·subst u;rw[bx,if_pos rfl]at an;rw[e9];exact aU j an
      ·rw[mY]at s E;exact t.rel.apart i j bQ s E O aC
     have t2:gZ dy fg w H1 c8 dy fg (bY H1 o (.box T t2 gN)) c8:=
      ⟨eh,⟨λ_ _ h=>h,λ_ _ _=>rfl,λ_ _ h=>.inl h,b7 _,rfl,rfl,rfl,λ_ _ _=>rfl,λb ⟨i,s,E⟩=>.inr ⟨i,by rw[<-mY];exact s,E⟩⟩,⟨λ_ _=>rfl,λi u=>by rw[e9];exact u⟩,by rw[ie H1 o _ Cx];exact t.top⟩
     obtain ⟨mB,mA,t3⟩:=aQ m dy fg _ c8 a1 t2.top eh;exact ⟨mB,mA,(t.trans t2).trans t3⟩
    ·simp[HM.go]at aa
   ·simp[HM.go]at e
  ·rename_i dQ fB b6 t0 m heq;injection heq with bj bG
   subst bj bG;simp only[HM.go]at e;split at e
   ·rename_i L t1 xs fz J;simp only[HM.go]at e;obtain ⟨dy,g,-⟩:=MA h o (gB (by rw[J];rfl));have t1:=gZ.ghost g aR;obtain ⟨mB,mA,t3⟩:=aQ m dy ι _ n e t1.top g.rel;exact ⟨mB,mA,t1.trans t3⟩
   ·simp[HM.go]at e
  ·rename_i dQ fB m heq;injection heq with bj bG
   subst bj bG;simp only[HM.go]at e;split at e
   ·rename_i L t1 xs fz J;simp only[HM.go]at e;have Cx:o<H.length:=gB (by rw[J];rfl);have bx: ∀i,aE (bY H o .gone) i=if i=o then .gone else aE H i:=λi=>gA H o _ i (Nat.le_of_lt Cx)
    have mY: ∀i,(aE (bY H o .gone) i).owns=true->(aE H i).owns=true:=λi=>by
     rw[bx];split
     ·intro ai;cases ai
     ·exact λai=>ai
    have e9: ∀i,(aE (bY H o .gone) i).live=(aE H i).live:=λi=>by
     rw[bx];split
     ·rename_i e;subst e;rw[J];rfl
     ·rfl
    have eh:cc φ ι w (bY H o .gone):=by
     refine h.update (λi=>i=o) (λi u=>by rw[bx,if_neg u]) (λ_ _=>rfl) (λi u=>by rw[e9];exact u) (λi u=> ?_) (λi u j an=> ?_) (λ_ _ _ _ _=>rfl) (λ_ _ _=>rfl) (λi j bQ u s E O aC=> ?_)
     ·subst u;rw[bx,if_pos rfl];exact trivial
     ·subst u;rw[bx,if_pos rfl]at an;simp[aF.ids]at an
     ·subst u;rw[bx,if_pos rfl]at s;cases s
    have t2:gZ φ ι w H n φ ι (bY H o .gone) n:=
     ⟨eh,⟨λ_ _ h=>h,λ_ _ _=>rfl,λ_ _ h=>.inl h,b7 _,rfl,rfl,rfl,λ_ _ _=>rfl,λb ⟨i,s,E⟩=>.inr ⟨i,mY i s,E⟩⟩,⟨λ_ _=>rfl,λi u=>by rw[e9];exact u⟩,by rw[ie H o _ Cx];exact aR⟩
    obtain ⟨mB,mA,t3⟩:=aQ m φ ι _ n e t2.top eh;exact ⟨mB,mA,t2.trans t3⟩
   ·exact aQ m φ ι H n e aR h
  ·rename_i x fB y m cC ayK ayL heq;injection heq with bj bG
   subst bj bG;exact aQ m φ ι H n e aR h
  ·obtain ⟨-,rfl,rfl⟩:=go_ret e;exact ⟨φ,ι,gZ.refl h aR⟩
theorem bO.get_ren (ρ:Nat->Nat) (R:bO) (I:Nat):(R.ren ρ).get I=(R.get I).map (K.ren ρ):=by
 induction R with
 |nil=>rfl
 |cons p l aQ=>
  obtain ⟨e,r⟩:=p;simp only[bO.ren,bO.get];cases Nat.beq I e
  ·simpa using aQ
  ·rfl
theorem bO.get_ids {R:bO} {I:Nat} {r:K} (h:R.get I=some r): ∀i∈r.ids,i∈R.ids:=by
 induction R with
 |nil=>simp[bO.get]at h
 |cons p l aQ=>
  obtain ⟨e,x⟩:=p;simp only[bO.get]at h;intro i u;simp only[bO.ids,dk];cases J:Nat.beq I e
  ·simp only[J,ax]at h;exact .inr (aQ h i u)
  ·simp only[J,ak,bH]at h;subst h;exact .inl u
theorem XD [Env]: ∀(d:List (Nat×cm)) (R eH:bO) (φ:bJ) (ι:Nat->az) (H:List aF) (n:Nat) (aA:List aF) (aI:Nat),(z7 d R).go H n=some (eH,aA,aI)->n=H.length->cc φ ι w H->mH φ ι w H R jQ->
  ∃av aH,gZ φ ι w H n av aH aA aI/\mH av aH w aA eH jQ/\ ∀i∈eH.ids,(aE aA i).live=true
 |[],R,eH,φ,ι,H,n,aA,aI,e,aR,h,au=>by simp only[z7]at e;obtain ⟨rfl,rfl,rfl⟩:=go_ret e;exact ⟨φ,ι,gZ.refl h aR,λI r al=>by simp[bO.get]at al,by simp[bO.ids]⟩
 |(I,d)::l,R,eH,φ,ι,H,n,aA,aI,e,aR,h,au=>by
  simp only[z7]at e;split at e
  ·rename_i r al;obtain ⟨ah,H1,c8,L,aa⟩:=HM.go_bind_some e;obtain ⟨jv,e3,dP,a1,bq⟩:=HM.go_bind_some aa;obtain ⟨rfl,rfl,rfl⟩:=go_ret bq;obtain ⟨dy,fg,t1,bb,aU⟩:=My d r ah (jQ I) φ ι H n H1 c8 L aR h (au I r al).1 (au I r al).2;obtain ⟨ec,ei,t2,ck,ep⟩:=XD l R jv dy fg H1 c8 _ _ a1 t1.top t1.rel (au.step t1.step t1.keep);refine ⟨ec,ei,t1.trans t2,λe x ai=> ?_,λi u=> ?_⟩
   ·simp only[bO.get]at ai;cases J:Nat.beq e I
    ·simp only[J,ax]at ai;exact ck e x ai
    ·simp only[J,ak,bH]at ai;have:e=I:=by simpa using J
     subst this ai;exact ⟨K.rel_step t2.step t2.keep aU bb,λi u=>t2.keep.live i (aU i u)⟩
   ·simp only[bO.ids,dk]at u;rcases u with u |u
    ·exact t2.keep.live i (aU i u)
    ·exact ep i u
  ·simp[HM.go]at e
theorem Z8 [Env] {S:Shape} {m:Nat} {R:bO} {a8:bz} (e:(GV S m R).go H n=some (a8,aA,aI)) (aR:n=H.length) (h:cc φ ι w H) (au:mH φ ι w H R jQ) (hm:gM m H):
  ∃av aH,cc av aH w a8.heap/\mH av aH w a8.heap a8.regs jQ/\Step φ ι w H av aH w a8.heap/\ic m ι H aH a8.heap/\gM m a8.heap/\m<=a8.heap.length/\gM a8.heap.length a8.heap:=by
 unfold GV at e;obtain ⟨jv,H1,c8,L,aa⟩:=HM.go_bind_some e;obtain ⟨dy,fg,t1,bb,aU⟩:=XD S.regs R jv φ ι H n H1 c8 L aR h au;clear e;obtain ⟨p,e3,dP,a1,bq⟩:=HM.go_bind_some aa;clear aa;obtain ⟨g1,g2,-⟩:=y5 200 _ [] [] p e3 dP a1 rfl (by simp) (by simp);rw[g1,g2]at bq;obtain ⟨ad,lY,n3,cU,dp⟩:=HM.go_bind_some bq;clear bq;obtain ⟨ec,ei,t2⟩:=alW p.1 S.objs ad dy fg H1 c8 lY n3 cU t1.top t1.rel;have t:=t1.trans t2;obtain ⟨q,Kg,n4,h1,lG⟩:=HM.go_bind_some dp;clear dp;have Q1:gM m lY:=λo W=>t.keep.live o (hm o W)
 have gs:=y5 200 _ [] [] q Kg n4 h1 rfl (by simp) (by simp);obtain ⟨-,-,mS,dO,-,gG⟩:=gs;have Q3:=gG t.rel.live_ids (λi u=>by
  rcases dk.1 u with u |u
  ·exact Q1 i (abP.1 u)
  ·exact t2.keep.live i (aU i u)) (by simp)
 obtain ⟨c6,QP⟩:=ZP (k2 m) 200 jv.ids [] [] q Kg n4 h1 (by simpa using aqP m);rw[List.nil_append]at QP;obtain ⟨rfl,-,-⟩:=go_ret lG;have ck:mH ec ei w lY jv jQ:=bb.step t2.step t2.keep;have ad1: ∀o,o<m->q.1[o]? =some o:=λo W=>by rw[QP,List.getElem?_append_left (by rw[ab3];exact W)];exact ah9 W
 have hlen:(q.2.map (aF.ren (idx q.1))).length=q.1.length:=by rw[mS.obs];simp
 refine ⟨ec,k1 ei q.1,acN t.rel mS Q3,λI r al=> ?_,t.step.trans (ah0 mS),λo W fa=> ?_,λo W=> ?_,?_,λo W=>acM mS Q3 o W⟩
 ·simp only[bO.get_ren,h7]at al;obtain ⟨x,ai,rfl⟩:=al;have aeC: ∀i∈x.ids,i∈q.1:=λi u=>dO i (dk.2 (.inr (bO.get_ids ai i u)))
  refine ⟨K.ren_rel _ x _ (λi u=>Gg (aeC i u)) (ck I x ai).1,?_⟩;rw[K.ren_ids];exact ack mS Q3 aeC
 ·have s:=ad1 o W;refine ⟨?_,?_⟩
  ·have:k1 ei q.1 o=ei o:=by simp[k1,jH,s]
   rw[this];exact t.keep.iota o fa
  ·show (aE (kA q.1 q.2) o).live=true;rw[nK mS s,aF.ren_live];exact Q1 o W
 ·show (aE (kA q.1 q.2) o).live=true;rw[nK mS (ad1 o W),aF.ren_live];exact Q1 o W
 ·simp only[hlen];rw[QP,fr,ab3];omega
theorem arH [Env] (h:cc φ ι w H) {o:Nat} {e:bm} {t:aB} {xs:List t.den} {fz:Bool} (W:aE H o=.arr e t xs fz) (aR:n=H.length):
  gZ φ ι w H n φ (ee ι n (ι o)) (bY (bY H o .gone) n (.arr e t xs fz)) (n+1):=by
 have dv:=h.obj o;rw[W]at dv;have oy:(aE H o).owns=true:=by rw[W];rfl
 have h5:(aE H n).live=false:=by rw[aR,pv (b7 _)];rfl
 obtain ⟨bb,aU,ck,ep⟩:=w1 (av:=φ) (ao:=w) h oy (by omega) h5 (v:=ι o) (dd:=.arr e t xs fz) rfl rfl rfl rfl rfl (b7 _) (λ_ _ _=>rfl) (λ_ _ h=>h) (λ_ _ _=>rfl) (λ_ _ h=>.inl h)
  (λb J=>.inr J) (by obtain ⟨A,m,c,f1,f2⟩:=dv;exact ⟨A,m,c,by simpa [ee] using f1,f2⟩)
 exact ⟨bb,aU,ck,(ep.seq aR).symm⟩
theorem wd [Env]: ∀(l:List dX) (o:Nat) (q:List (Nat×Nat)) (ι:Nat->az) (H:List aF) (n:Nat) (aA:List aF) (aI:Nat),(uy l o).go H n=some (q,aA,aI)->n=H.length->cc φ ι w H->
  ∃aH,gZ φ ι w H n φ aH aA aI/\(q=[]->aA=H/\aI=n/\aH=ι)/\ ∀i,(aE aA i).live=true->aH (fwd q i)=aH i/\(aE aA (fwd q i)).live=true
 |[],o,q,ι,H,n,aA,aI,e,aR,h=>by simp only[uy]at e;obtain ⟨rfl,rfl,rfl⟩:=go_ret e;exact ⟨ι,gZ.refl h aR,λ_=>⟨rfl,rfl,rfl⟩,λi u=>⟨rfl,u⟩⟩
 |d::l,o,q,ι,H,n,aA,aI,e,aR,h=>by
  by_cases ae:d=.gone
  ·subst ae;simp only[uy,HM.go]at e;split at e
   ·rename_i b6 t xs fz dv;simp only[HM.go]at e;obtain ⟨bG,e3,dP,L,aa⟩:=HM.go_bind_some e;obtain ⟨rfl,rfl,rfl⟩:=go_ret aa;have lx:=arH h dv aR;have fa:(aE H o).live=true:=by rw[dv];rfl
    have bd:=gB fa;obtain ⟨aH,dS,-,O⟩:=wd l (o+1) bG _ _ _ _ _ L lx.top lx.rel;refine ⟨aH,lx.trans dS,⟨λaD=>(by cases aD),λi u=> ?_⟩⟩;have kI:o≠n:=by omega
    have ad0:(aE (bY (bY H o .gone) n (.arr b6 t xs fz)) n).live=true:=by rw[gA _ n _ n (by rw[ie H o _ bd];omega),if_pos rfl];rfl
    simp only[fwd];cases J:Nat.beq i o
    ·simp only[ax];exact O i u
    ·simp only[ak];have:i=o:=by simpa using J
     subst this;refine ⟨?_,dS.keep.live _ ad0⟩;rw[dS.keep.iota _ ad0,dS.keep.iota _ (lx.keep.live _ fa),lx.keep.iota _ fa];simp[ee]
   ·exact wd l (o+1) q ι H n aA aI e aR h
  ·refine wd l (o+1) q ι H n aA aI ?_ aR h;cases d with
   |gone=>exact absurd rfl ae
   |_=>exact e
theorem LB [Env] {ρ:Nat->Nat}: ∀(l:List Nat) (ad:Unit) (H:List aF) (n:Nat) (aA:List aF) (aI:Nat),(wV ρ l).go H n=some (ad,aA,aI)->n=H.length->cc φ ι w H->(∀i,(aE H i).live=true->ι (ρ i)=ι i/\(aE H (ρ i)).live=true)->
  gZ φ ι w H n φ ι aA aI
 |[],ad,H,n,aA,aI,e,aR,h,CS=>by simp only[wV]at e;obtain ⟨-,rfl,rfl⟩:=go_ret e;exact gZ.refl h aR
 |o::l,ad,H,n,aA,aI,e,aR,h,CS=>by
  simp only[wV,HM.go]at e;split at e
  ·rename_i T t r dv;simp only[HM.go]at e;have bd:o<H.length:=gB (by rw[dv];rfl);have bx: ∀i,aE (bY H o (.box T t (r.ren ρ))) i=if i=o then .box T t (r.ren ρ) else aE H i:=λi=>gA H o _ i (Nat.le_of_lt bd)
   have mY: ∀i,(aE (bY H o (.box T t (r.ren ρ))) i).owns=(aE H i).owns:=λi=>by
    rw[bx];split
    ·rename_i e;subst e;rw[dv];rfl
    ·rfl
   have e9: ∀i,(aE (bY H o (.box T t (r.ren ρ))) i).live=(aE H i).live:=λi=>by
    rw[bx];split
    ·rename_i e;subst e;rw[dv];rfl
    ·rfl
   have fk: ∀i∈r.ids,(aE H i).live=true:=λi u=>h.idsB o T t r dv i u
   have eh:cc φ ι w (bY H o (.box T t (r.ren ρ))):=by
    refine h.update (λi=>i=o) (λi u=>by rw[bx,if_neg u]) (λ_ _=>rfl) (λi u=>by rw[e9];exact u) (λi u=> ?_) (λi u j an=> ?_) (λ_ _ _ _ _=>rfl) (λ_ _ _=>rfl) (λi j bQ _ s E O aC=> ?_)
    ·subst u;rw[bx,if_pos rfl];have ai:=h.obj i;rw[dv]at ai;obtain ⟨b,cur,c0,v,g1,g2,g3,g4,g5,g6,g7,g8,g9⟩:=ai;exact ⟨b,cur,c0,v,g1,g2,g3,g4,g5,K.ren_rel ρ r v (λj an=>(CS j (fk j an)).1) g6,g7,by rw[K.ren_fits];exact g8,g9⟩
    ·subst u;rw[bx,if_pos rfl]at an;have an:j∈(r.ren ρ).ids:=an;rw[K.ren_ids]at an;obtain ⟨k,af,rfl⟩:=List.mem_map.1 an;rw[e9];exact (CS k (fk k af)).2
    ·rw[mY]at s E;exact h.apart i j bQ s E O aC
   have lx:gZ φ ι w H n φ ι (bY H o (.box T t (r.ren ρ))) n:=
    ⟨eh,⟨λ_ _ h=>h,λ_ _ _=>rfl,λ_ _ h=>.inl h,b7 _,rfl,rfl,rfl,λ_ _ _=>rfl,λb ⟨i,s,E⟩=>.inr ⟨i,by rw[<-mY];exact s,E⟩⟩,⟨λ_ _=>rfl,λi u=>by rw[e9];exact u⟩,by rw[ie H o _ bd];exact aR⟩
   exact lx.trans (LB l ad _ n _ _ e lx.top eh (λi u=>by rw[e9]at u ⊢;exact CS i u))
  ·exact LB l ad H n aA aI e aR h CS
theorem aaW [Env] {S:Shape} {m:Nat} {R:bO} {a8:bz} (e:(zV S m R).go H n=some (a8,aA,aI)) (aR:n=H.length) (h:cc φ ι w H) (au:mH φ ι w H R jQ) (hm:gM m H):
  ∃av aH,cc av aH w a8.heap/\mH av aH w a8.heap a8.regs jQ/\Step φ ι w H av aH w a8.heap/\ic m ι H aH a8.heap/\gM m a8.heap/\m<=a8.heap.length/\gM a8.heap.length a8.heap:=by
 unfold zV at e;obtain ⟨q,H1,c8,L,aa⟩:=HM.go_bind_some e;obtain ⟨fg,lx,b8,aL⟩:=wd _ 0 q ι H n H1 c8 L aR h;split at aa
 ·obtain ⟨rfl,rfl,rfl⟩:=b8 rfl;exact Z8 aa aR h au hm
 ·obtain ⟨p,e3,dP,a1,bq⟩:=HM.go_bind_some aa;obtain ⟨g1,g2,-⟩:=y5 200 _ [] [] p e3 dP a1 rfl (by simp) (by simp);rw[g1,g2]at bq;obtain ⟨ad,lY,n3,cU,dp⟩:=HM.go_bind_some bq;have dS:=LB p.1 ad H1 c8 lY n3 cU lx.top lx.rel aL;have T:=lx.trans dS;have auI:mH φ fg w lY (R.ren (fwd q)) jQ:=by intro I r al;rw[bO.get_ren]at al;obtain ⟨x,ai,rfl⟩:=h7.1 al;obtain ⟨bb,aU⟩:=au.step lx.step lx.keep I x ai;refine ⟨K.ren_rel _ x _ (λi u=>(aL i (aU i u)).1) bb,λi u=> ?_⟩;rw[K.ren_ids]at u;obtain ⟨j,an,rfl⟩:=List.mem_map.1 u;exact dS.keep.live _ (aL j (aU j an)).2
  have vf:gM m lY:=λo W=>T.keep.live o (hm o W)
  obtain ⟨av,aH,dY,a2,a3,a4,a5,oa,zY⟩:=Z8 dp T.top T.rel auI vf;exact ⟨av,aH,dY,a2,T.step.trans a3,λo W ab=>⟨((a4 o W (vf o W)).1).trans (T.keep.iota o ab),(a4 o W (vf o W)).2⟩,a5,oa,zY⟩
theorem lH [Env] {S:Shape} {m:Nat} {nt:js} {st:bz} {a:Act} {d:S.ty.den} (e:(S.take m st).val=some d) (cg:ds φ ι w nt st a) (hm:gM m st.heap):
  ∃av aH,ds av aH w nt (S.enc d) a/\Step φ ι w st.heap av aH w (S.enc d).heap/\ic m ι st.heap aH (S.enc d).heap/\m<=(S.enc d).heap.length/\gM (S.enc d).heap.length (S.enc d).heap:=by
 unfold Shape.take at e;obtain ⟨⟨a8,cu,aI,hf⟩,L,aa⟩:=DT.val_bind_some e;simp only[DT.val_ofOpt]at aa;have a1:=Shape.dec_enc aa;obtain ⟨av,aH,bb,aU,ck,ep,hz,iI,yn⟩:=aaW (jQ:=na a) (HM.go_run _ _ _ _ _ _ _ _ L) rfl cg.heap cg.regs hm;rw[a1];exact ⟨av,aH,⟨bb,aU,cg.nt,cg.small,cg.defers.step ck⟩,ck,ep,iI,yn⟩
end
open Go.RowKit
def i8 (nt:Nat):Code->Bool
 | .region _ ops _=>ops.toList.all (pT nt)
 | .seq a b=>i8 nt a&&i8 nt b
 | .cond _ a b=>i8 nt a&&i8 nt b
 | .block _ c=>i8 nt c
 | .loop c=>i8 nt c
 | .scope c=>i8 nt c
 |_=>true
section
variable {P:cq} {bD:Exit->Act->bh->Prop} {a:Act} {w:bh}
variable {F:Fence} {n:Nat}
theorem yY {c:Code} {b:Frame} {k:List Item} {cs:List Frame}:step P (lone (b.atR a (.code (.scope c)::k)) cs w)=.next (lone (b.atR a (.code c:: .inScope c::k)) cs w):=
 step_lone_go (by simp[stepG,stepG.exec,Frame.atR])
theorem anG {c:Code} {b:Frame} {k:List Item} {cs:List Frame}:step P (lone (b.atR a (.inScope c::k)) cs w)=.next (lone (b.atR a k) cs w):=
 step_lone_go (by simp[stepG,stepG.exec,Frame.atR])
def a24 (bD:Exit->Act->bh->Prop):Exit->Act->bh->Prop
 | .goto _,_,_=>False
 |e,a,w=>bD e a w
theorem aam {c:Code} (h:c.wpIn F n P (a24 bD) a w):(Code.scope c).wpIn F n P bD a w:=by
 intro b k cs ch J au;have b8:(lone (b.atR a (.code (.scope c)::k)) cs w).fenced P F:=fenced_calm J au rfl;obtain ⟨e,Bl,D2,aD,hQ⟩:=h b (.inScope c::k) cs ch J au;cases e with
 |normal=>exact ⟨.normal,Bl,D2,aD,.head b8 yY (StepsIn.trans hQ (.one (fenced_calm J au rfl) anG))⟩
 |exit id=>
  have ai:exitTo id (.inScope c::k)=exitTo id k:=by simp[exitTo]
  exact ⟨.exit id,Bl,D2,aD,λcj af=>.head b8 yY (hQ.1 cj (by rw[ai];exact af)),
   λRi af=>let ⟨k₁,s,E⟩:=hQ.2 Ri (by rw[ai];exact af);⟨k₁,s,.head b8 yY E⟩⟩
 |goto l=>exact aD.elim
 |ret=>exact ⟨_,Bl,D2,aD,.of_steps (.one b8 yY) hQ⟩
 |panic l6=>exact ⟨_,Bl,D2,aD,.of_steps (.one b8 yY) hQ⟩
 |outgrown=>exact ⟨_,Bl,D2,aD,.of_steps (.one b8 yY) hQ⟩
end
def kY:ed->Exit
 | .nrm=>.normal | .exit i=>.exit i | .ret=>.ret
section
variable {P:cq} {cx:cd} {Γ:hG} {φ:bJ} {ι:Nat->az} {w:bh} {nt:js} {st a8:bz} {a:Act} {ops:Array Oper}
theorem apM (H:List aF) (k i:Nat):aE (H++List.replicate k .hole) i=aE H i:=by
 unfold aE;simp only[jH];rcases Nat.lt_or_ge i H.length with h |h
 ·rw[List.getElem?_append_left h]
 ·rw[List.getElem?_append_right h,List.getElem?_eq_none h];rcases Nat.lt_or_ge (i-H.length) k with E |E
  ·simp[List.getElem?_replicate,E]
  ·simp[List.getElem?_replicate,Nat.not_lt.2 E]
theorem apn [Env] (tab:cQ P cx) (c1:ca P Γ) (hm:P.follows .mixedOrders=true) {draw:Bool} {id:Nat} {bD:Exit->Act->bh->Prop} (e:(Oi cx Γ ops draw st).val=some a8) (d:ds φ ι w nt st a) (al:ops.toList.all (pT nt.n)=true) (jL:ops.toList.any u2=true->nt.df)
  (k: ∀bn ao av aH,ds av aH ao nt a8 bn->Step φ ι w st.heap av aH ao a8.heap->ej ι st.heap aH a8.heap->bD .normal bn ao):(Code.region id ops draw).wpIn (eX nt.ro) 0 P bD a w:=by
 unfold Oi at e;cases draw
 ·simp only[ax]at e;exact wpIn_region_list (J2 tab c1 ops.toList st a8 φ ι w a e d al jL k)
 ·simp only[ak]at e;obtain ⟨⟨eo,V⟩,L,aa⟩:=DT.val_bind_some e;clear e;simp only at aa;cases J:uH (kt ops.toList) 0 V&&wZ 0 ops.toList
  ·simp[J,DT.val]at aa
  ·simp only[J,ak,DT.val,bH]at aa;subst aa;simp only[bN]at J;obtain ⟨bj,bG,dm,cJ⟩:=ZN (ar:=st.heap.length+slotsOf*ops.size) ops.toList 0 _ eo [] V L rfl (λk=>by simp) (by simp);have sQ: ∀x y,x<y->y<ops.size->((kt ops.toList).getD y 0).testBit x=true\/GL ops (qH V) x y:=by
    intro x y sZ bo;have hlen:V.length=ops.size:=by rw[bj];simp
    have CL:x<V.length:=by omega
    have CN:y<V.length:=by omega
    have ex:V[x]? =some V[x]:=hg CL;have PC:V[y]? =some V[y]:=hg CN;rcases aaC V 0 J.1 x y _ _ sZ ex PC with h |h
    ·left;simpa using h
    ·right;simp only[nf.apart,bN]at h;obtain ⟨⟨⟨⟨⟨⟨⟨s,E⟩,O⟩,aC⟩,ba⟩,bF⟩,dN⟩,ig⟩:=h;have B3:qH V x=V[x].fp:=by simp[qH,ex]
     have B4:qH V y=V[y].fp:=by simp[qH,PC]
     refine ⟨λavS avT auD auE=> ?_,?_,?_,?_,?_,?_⟩
     ·have nx:=dm x avS _ (by simpa using auD) (by rw[Nat.zero_add];exact ex);have Si:=dm y avT _ (by simpa using auE) (by rw[Nat.zero_add];exact PC);rw[nx.1,Si.2]at s;rw[nx.1,Si.1]at E;rw[nx.2,Si.1]at O;refine ⟨λI al=>⟨tN s I (by simp[al]),λlb=> ?_⟩,λI al hu=> ?_⟩
      ·exact tN E I (by simp[al]) (by simp[lb])
      ·exact tN O I hu (by simp[al])
     ·rw[B3,B4];exact tN bF
     ·rw[B3,B4];exact tN aC
     ·rw[B3,B4];exact tN ba
     ·rw[B3,B4];intro o W iy;exact tN dN o iy W
     ·rw[B3,B4];intro o W iy;exact tN ig o iy W
   have bx:=apM st.heap (slotsOf*ops.size);have eh:cc φ ι {w with drawn:=w.drawn+1} (st.heap++List.replicate (slotsOf*ops.size) .hole):=
    d.heap.update (λ_=>False) (λi _=>bx i) (λ_ _=>rfl) (λi h=>by rw[bx];exact h) (λ_ h=>h.elim) (λ_ h=>h.elim) (λ_ _ _ _ _=>rfl) (λ_ _ _=>rfl) (λ_ _ _ h=>h.elim)
   have gI:Step φ ι w st.heap φ ι {w with drawn:=w.drawn+1} (st.heap++List.replicate (slotsOf*ops.size) .hole):=
    ⟨λ_ _ h=>h,λ_ _ _=>rfl,λ_ _ h=>.inl h,b7 _,rfl,rfl,rfl,λ_ _ _=>rfl,λb ⟨i,s,E⟩=>.inr ⟨i,by rw[<-bx];exact s,E⟩⟩
   have lo:ds φ ι {w with drawn:=w.drawn+1} nt ⟨st.regs,st.heap++List.replicate (slotsOf*ops.size) .hole⟩ a:=
    ⟨eh,λI r au=>⟨K.rel_mono (φ:=φ) (ι:=ι) (w:=w) (ao:={w with drawn:=w.drawn+1}) (λ_ _ h=>h) (λ_ _ _=>rfl) r _ (λ_ _=>rfl) (d.regs I r au).1,λi u=>by simp only[bx];exact (d.regs I r au).2 i u⟩,d.nt,d.small,d.defers.step gI⟩
   have avm:ej ι st.heap ι (st.heap++List.replicate (slotsOf*ops.size) .hole):=⟨λ_ _=>rfl,λi h=>by rw[bx];exact h⟩;refine wpIn_region_any hm ?_;refine aqw tab c1 (base:=st.heap.length) (ar:=st.heap.length+slotsOf*ops.size) (aY:=qH V) al J.2 sQ (b7 _) k ops.size _ (List.range' 0 ops.size) _ φ ι _ a (by simp) List.pairwise_lt_range' (by simp) (λi=> ?_) (λi s E=> ?_) (λi u c2 s E=> ?_) (by simp) (by simpa using cJ) lo gI avm
   ·simp only[List.mem_range'_1,Nat.zero_le,true_and,Nat.zero_add];constructor
    ·intro h;exact ⟨h,by simp[iX,h]⟩
    ·exact λh=>h.1
   ·exact absurd (by simp[List.mem_range'_1];exact s) E
   ·rw[bx,pv (by omega)];rfl
def eT:Code->Bool
 | .seq a b=>eT a||eT b
 | .cond _ a b=>eT a||eT b
 | .block _ c=>eT c
 | .loop c=>eT c
 | .scope c=>eT c
 | .rangeFunc ..=>true
 |_=>false
def gv:Code->Bool
 | .region _ ops _=>ops.toList.any u2
 | .seq a b=>gv a||gv b
 | .cond _ a b=>gv a||gv b
 | .block _ c=>gv c
 | .loop c=>gv c
 | .scope c=>gv c
 |_=>false
structure iD (nt:js) (c:Code):Prop where
 rf:eT c=true->nt.rf
 df:gv c=true->nt.df
theorem iD.of {nt:js} {c eu:Code} (h:iD nt c) (s:eT eu=true->eT c=true) (E:gv eu=true->gv c=true):iD nt eu:=⟨λx=>h.rf (s x),λx=>h.df (E x)⟩
theorem iD.fn {n b:Nat} {c:Code} (h:gv c=false):iD ⟨n,b,[],none,false⟩ c:=⟨λ_=>⟨rfl,rfl⟩,λx=>absurd (h.symm.trans x) (by simp)⟩
theorem iD.no {nt:js} {c:Code} (s:eT c=false) (E:gv c=false):iD nt c:=⟨λx=>absurd (s.symm.trans x) (by simp),λx=>absurd (E.symm.trans x) (by simp)⟩
theorem iD.fnD {n b:Nat} {c:Code} (h:eT c=false):iD ⟨n,b,[],none,true⟩ c:=⟨λx=>absurd (h.symm.trans x) (by simp),λ_=>⟨rfl,rfl,rfl⟩⟩
def hl [Env] (P:cq) (F:bk) (n:Nat) (k:Nat) (c:Code):Prop:=
 ∀(nt:js) (st:bz) (e:ed) (a8:bz) (φ:bJ) (ι:Nat->az) (w:bh) (a:Act) (bD:Exit->Act->bh->Prop),nt.n=n->iD nt (.loop c)->(F.Λ k st).val=some (e,a8)->ds φ ι w nt st a->gM F.m st.heap->
  (∀bn ao av aH,ds av aH ao nt a8 bn->Step φ ι w st.heap av aH ao a8.heap->ic F.m ι st.heap aH a8.heap->bD (kY e) bn ao)->(Code.loop c).wpIn (eX nt.ro) 0 P bD a w
theorem apI {ks:List Nat} {R:bO} {I:Nat} {r:K} (h:(tW ks R).get I=some r):R.get I=some r:=by
 induction R with
 |nil=>simp[tW,bO.get]at h
 |cons p l aQ=>
  obtain ⟨e,x⟩:=p;simp only[tW]at h;simp only[bO.get];cases af:has ks e
  ·simp only[af,ax]at h;cases J:Nat.beq I e
   ·simpa using aQ h
   ·have L:I=e:=by simpa using J
    subst L;exfalso;have: ∀l:bO,(tW ks l).get I=none:=by
     intro l
     induction l with
     |nil=>rfl
     |cons p l aQ=>
      obtain ⟨aa,oO⟩:=p;simp only[tW];cases jM:has ks aa
      ·simpa using aQ
      ·simp only[ak,bO.get];cases en:Nat.beq I aa
       ·simpa using aQ
       ·have:I=aa:=by simpa using en
        subst this;rw[af]at jM;cases jM
    rw[this]at h;cases h
  ·simp only[af,ak,bO.get]at h;cases J:Nat.beq I e
   ·simp only[J,ax]at h ⊢;exact aQ h
   ·simp only[J,ak]at h ⊢;exact h
theorem Yt [Env] {t:Nat->az}: ∀(R eH:bO) (φ:bJ) (H:List aF) (n:Nat) (aA:List aF) (aI:Nat),(AR R).go H n=some (eH,aA,aI)->cc φ ι w H->(∀q∈R,q.2.rel φ ι w (t q.1)/\ ∀i∈q.2.ids,(aE H i).live=true)->
  aI=n/\ ∃av,e2 φ ι w H av aA/\ ∀q∈eH,q.2.rel av ι w (t q.1)/\ ∀i∈q.2.ids,(aE aA i).live=true
 |[],eH,φ,H,n,aA,aI,e,h,aD=>by simp only[AR]at e;obtain ⟨rfl,rfl,rfl⟩:=go_ret e;exact ⟨rfl,φ,e2.refl h,by simp⟩
 |(I,r)::l,eH,φ,H,n,aA,aI,e,h,aD=>by
  simp only[AR]at e;obtain ⟨ah,H1,c8,L,e⟩:=HM.go_bind_some e;obtain ⟨dD,e3,dP,aa,e⟩:=HM.go_bind_some e;obtain ⟨rfl,rfl,rfl⟩:=go_ret e;obtain ⟨b8,as2⟩:=aD (I,r) (by simp);obtain ⟨rfl,dy,g1,CD,ve⟩:=Zv L h b8 as2;obtain ⟨rfl,ec,g2,po⟩:=Yt l dD dy H1 _ _ _ aa g1.rel (λq jN=>by obtain ⟨bb,aU⟩:=aD q (by simp[jN]);exact ⟨K.rel_mono g1.step.phi g1.step.cells q.2 _ (λ_ _=>rfl) bb,λi u=>by rw[g1.live];exact aU i u⟩)
  refine ⟨rfl,ec,g1.trans g2,λq jN=> ?_⟩;rcases eO.1 jN with rfl |jN
  ·exact ⟨K.rel_mono g2.step.phi g2.step.cells ah _ (λ_ _=>rfl) CD,λi u=>by rw[g2.live];exact ve i u⟩
  ·exact po q jN
theorem bO.get_mem {R:bO} {I:Nat} {r:K} (h:R.get I=some r):(I,r)∈R:=by
 induction R with
 |nil=>simp[bO.get]at h
 |cons p l aQ=>
  obtain ⟨e,x⟩:=p;simp only[bO.get]at h;cases J:Nat.beq I e
  ·simp only[J,ax]at h;exact gO _ (aQ h)
  ·simp only[J,ak,bH]at h;have:I=e:=by simpa using J
   subst this h;simp
theorem Eb {R:bO}: ∀(us:List Nat) (q:Nat×K),q∈uE R us->R.get q.1=some q.2/\q.1≠dE
 |[],q,h=>by simp[uE]at h
 |I::us,q,h=>by
  simp only[uE]at h;cases J:has us I||Nat.beq I dE
  ·simp only[J,ax]at h;split at h
   ·rename_i r au;rcases eO.1 h with rfl |h
    ·exact ⟨au,λe=>by have e:I=dE:=e;simp only[Bool.or_eq_false_iff]at J;rw[e,Nat.beq_refl dE]at J;cases J.2⟩
    ·exact Eb us q h
   ·exact Eb us q h
  ·simp only[J,ak]at h;exact Eb us q h
theorem Z4 {p:Int} {st a8:bz} {e:ed}: ∀(l:List ed),(A6 l p st).val=some (e,a8)->p=nO e/\a8=st
 |[],h=>by simp[A6,DT.val]at h
 |x::l,h=>by
  simp only[A6,DT.val]at h;cases J:decide (p=nO x)
  ·simp only[J,ax]at h;exact Z4 l h
  ·simp only[J,ak,bH,cV]at h;obtain ⟨rfl,rfl⟩:=h;exact ⟨of_decide_eq_true J,rfl⟩
theorem Gx {e f:ed} (h:nO e=nO f):e=f:=by cases e<;>cases f<;>simp only[nO]at h<;>first |rfl |omega |(congr 1;omega)
theorem aq6 (e:ed):0<=nO e:=by cases e<;>simp[nO];omega
theorem ja.putObj (w:bh) (l:Nat) (o:Obj):ja w (w.putObj l o) l:=⟨rfl,rfl,rfl,by simp[World.putObj],λk af=>World.putObj_heap_other af⟩
theorem Ay {l fB:Nat} {a b c I:Array az} (h:Value.func (.yield l) a b=Value.func (.yield fB) c I):l=fB:=by
 injection h with s
 injection s
theorem ajT [Env] {H:List aF} (h:cc φ ι w H) {o b:Nat} {ao:bh} (W:(aE H o).owns=true) (J:dG (ι o)=some b) (g:ja w ao b) (kq: ∀k,¬φ b k):
  cc φ ι ao (bY H o .gone)/\Step φ ι w H φ ι ao (bY H o .gone)/\ej ι H ι (bY H o .gone):=by
 have fa:(aE H o).live=true:=by cases dv:aE H o<;>rw[dv]at W<;>first |rfl |(cases W)
 have bd:=gB fa;have bx: ∀i,aE (bY H o .gone) i=if i=o then .gone else aE H i:=λi=>gA H o _ i (Nat.le_of_lt bd)
 have ab: ∀i,(aE H i).live=true->(aE (bY H o .gone) i).live=true:=λi h=>by rw[bx];split<;>first |rfl |exact h
 have CT: ∀c k,φ c k->ao.cell? ⟨c,k,none⟩=w.cell? ⟨c,k,none⟩:=λc k aw=>g.cell (λe=>kq k (e▸aw))
 refine ⟨h.update (λi=>i=o) (λi dL=>by rw[bx,if_neg dL]) (λ_ _=>rfl) ab ?_ ?_ (λi c dL jh aw=>g.blocks c ?_) CT ?_,?_,⟨λ_ _=>rfl,ab⟩⟩
 ·rintro i rfl;rw[bx,if_pos rfl];trivial
 ·rintro i rfl j an;rw[bx,if_pos rfl]at an;simp[aF.ids]at an
 ·rintro rfl;exact dL (h.apart i o c jh W aw J)
 ·rintro i j c rfl s;rw[bx,if_pos rfl]at s;cases s
 ·refine ⟨λ_ _ h=>h,CT,λ_ _ h=>.inl h,by rw[g.size];exact b7 _,g.os,g.tape,g.output,λc aw aR=>g.blocks c (λe=>aR ⟨o,W,e▸J⟩),λc aw=> ?_⟩;obtain ⟨i,s,E⟩:=aw;rw[bx]at s;split at s
  ·cases s
  ·exact .inr ⟨i,s,E⟩
set_option maxHeartbeats 1000000 in
theorem ahV [Env] {F:bk} (tab:cQ P F.cx) (c1:ca P F.Γ) {Y:Nat} {g:Operand} {ps:Array Tmp} {x y:Code} {us PB:List Nat} {e:ed} {bD:Exit->Act->bh->Prop} (xV:Env.code Y=some ⟨ps.toList,x,y,nt.n⟩)
  (QU: ∀f∈F.its,∃fn,P.funcs[f]? =some fn/\(fn.name== "runtime.NumGoroutine")=false/\fn.body.isNone=false) (h:(KN F Y g us PB st).val=some (e,a8)) (ch:nt.rf) (cg:ds φ ι w nt st a) (lm:gM F.m st.heap)
  (c2: ∀bn ao av aH,ds av aH ao nt a8 bn->Step φ ι w st.heap av aH ao a8.heap->ic F.m ι st.heap aH a8.heap->bD (kY e) bn ao):(Code.rangeFunc g ps x y).wpIn (eX nt.ro) 0 P bD a w:=by
 unfold KN at h;split at h
 ·rename_i f lD bu;cases aw:has F.its f&& !jo f&&(st.regs.get dE).isNone
  ·simp[aw,DT.val]at h
  rw[aw,ak]at h;simp only[bN,eJ]at aw;obtain ⟨⟨oq,lK⟩,Cc⟩:=aw;obtain ⟨adj,QL,QM,Cm⟩:=QU f (AW.1 oq);obtain ⟨⟨p,E,dP,fp⟩,O,aC⟩:=DT.val_bind_some h;obtain ⟨H9,gS⟩:=Z4 _ aC;subst gS;have ba:=HM.go_run _ _ _ _ _ _ _ _ O;unfold UN at ba;obtain ⟨jv,H1,c8,L,aa⟩:=HM.go_bind_some ba;have dc:=cg.eval g;rw[bu]at dc;obtain ⟨⟨xs,aW,at2,vr,CP⟩,adZ⟩:=dc;have vr:xs= #[]:=by cases xs;simpa [K.relT] using vr
  subst vr;obtain ⟨rfl,dy,g1,adB⟩:=Yt (t:=λI=>a.tmps.getD I undef) _ _ φ st.heap _ _ _ L cg.heap (λq aD=>by have:=cg.regs _ _ (Eb _ q aD).1;rwa [iK (Eb _ q aD).2]at this);simp only[HM.go]at aa;obtain ⟨rec,qb⟩: ∃rec:FuncId->LoopState->Option Code->Loop,rec=λfn st awa=>{state:=st,pending:=awa,fn,tmps:=a.tmps,params:=ps,assign:=x,body:=y,defers:=w.heap.size}:=⟨_,rfl⟩
  refine wpIn_rangeFunc ?_;intro HH adS;have auO:(eX nt.ro).round=none:=ch.1;rw[auO];obtain ⟨dn,gT⟩: ∃dn,(w.alloc (.deferred (some []))).alloc (.loop (rec HH .ready none))=dn:=⟨_,rfl⟩;have lO:dn.heap.size=w.heap.size+2:=by rw[<-gT];simp
  have ath:dn.heap[w.heap.size+1]? =some (.loop (rec HH .ready none)):=by rw[<-gT];have:=World.alloc_heap_new (w.alloc (.deferred (some []))) (.loop (rec HH .ready none));rwa [World.size_alloc]at this
  have ate:dn.heap[w.heap.size]? =some (.deferred (some [])):=by rw[<-gT];exact (Below.heap_alloc _ _ _ (by simp)).trans (World.alloc_heap_new w _)
  have QQ:ia w dn:=by rw[<-gT];exact ⟨rfl,rfl,rfl,by simp;omega,λb J=>(Below.heap_alloc _ _ _ (by simp;omega)).trans (Below.heap_alloc w _ b J)⟩
  have h5:(aE H1 st.heap.length).live=false:=by rw[pv (by rw[g1.len];exact b7 _)];rfl
  have Q0:st.heap.length<=H1.length:=by rw[g1.len];exact b7 _
  have xX: ∀i,(aE H1 i).live=true->ee ι st.heap.length (.func (.yield (w.heap.size+1)) #[] #[]) i=ι i:=λi u=>by
   have:i≠st.heap.length:=by rintro rfl;rw[h5]at u;cases u
   simp[ee,this]
  obtain ⟨ahJ,TG,TH,ax8⟩:=A9 (v:=.func (.yield (w.heap.size+1)) #[] #[]) (dd:=.loop Y jv 0) g1.rel Q0 h5 QQ
   ⟨w.heap.size+1,rec HH .ready none,_,by simp[ee],⟨xV,ath,by rw[qb],by rw[qb],by rw[qb],by rw[qb];exact cg.nt,.inl ⟨rfl,by rw[qb],by rw[qb]⟩,λq aD=>by have:=adB q aD;rw[qb];exact K.rel_mono (λ_ _ h=>h) (λb k J=>QQ.cell (kP g1.rel J)) q.2 _ (λi u=>xX i (this.2 i u)) this.1,λk af=>by have:=kP g1.rel af;omega⟩⟩
   (λi u=>by obtain ⟨q,s,E⟩:=bO.ids_mem u;exact (adB q s).2 i E) rfl (λb J=>by
    have:w.heap.size+1=b:=by simpa [dG] using J
    omega)
  obtain ⟨ad,e3,n3,a1,bq⟩:=HM.go_bind_some aa;have aeb:(aE (bY H1 st.heap.length (.loop Y jv 0)) st.heap.length).live=true:=by rw[gA H1 _ _ _ Q0,if_pos rfl];rfl
  have ea:iZ (bY H1 st.heap.length (.loop Y jv 0)) (st.heap.length+1) n3:=by
   have:(bY H1 st.heap.length (.loop Y jv 0)).length=st.heap.length+1:=by
    have s:=tA H1 (.loop Y jv 0)
    rwa [g1.len]at s
   rw[<-this];exact Om _ _
  have Ce:=(jR.call lK).1 (JJ (aO:= #[.func (.yield (w.heap.size+1)) #[] #[]]++aW) c1 a1 ahJ (by
    rw[Array.toList_append];refine ⟨_,_,rfl,⟨by simp[ee],_,rfl⟩,?_⟩;refine K.relT_mono (φ:=dy) (ι:=ι) (w:=w) (λ_ _ h=>h) (λb k J=>QQ.cell (kP g1.rel J)) lD _ (λi u=>xX i (by rw[g1.live];exact adZ i (by simp[K.ids,u]))) ?_;exact K.relT_mono g1.step.phi g1.step.cells lD _ (λ_ _=>rfl) CP) (λi u=>by
    simp only[K.idsL,K.ids,dk,fJ]at u;rcases u with rfl |u
    ·exact aeb
    ·exact TH.live i (by rw[g1.live];exact adZ i (by simp[K.ids,u]))) ea)
  have adM:(callFunc f (#[.func (.yield (w.heap.size+1)) #[] #[]]++aW)).run P dn=.ok (.enter f (#[.func (.yield (w.heap.size+1)) #[] #[]]++aW)) dn:=by
   unfold callFunc;have Cn: ¬adj.name= "runtime.NumGoroutine":=by simpa using QM
   have QN: ¬adj.body=none:=by intro b8;rw[b8]at Cm;cases Cm
   simp[QL,Cn,QN]
  have atB:=Ce.resolve_right (λ⟨v,ao,s,_⟩=>by rw[adM]at s;injection s with s _;cases s);refine ⟨w.heap.size+1,[xm w.heap.size],dn,{target:=.fn (.func f) aW,args:= #[.func (.yield (w.heap.size+1)) #[] #[]]},dn,f,#[.func (.yield (w.heap.size+1)) #[] #[]]++aW,dn,?_,?_,λ_ _=>trivial,?_,(λh=>by cases h),?_⟩
  ·rw[<-gT,qb];exact run_enterLoop_outer _ _ _ _ _
  ·simp only[resolve,at2];simp[go_sem]
  ·simp only[invoke];exact adM
  refine NA nt.ro ?_;refine Calls.mono atB.2 λac9 ao=> ?_
  rintro ⟨v,av,aH,rfl,a7,aX,c3,e5,c5,kD⟩;simp only[HM.go]at bq;split at bq
  ·rename_i n9 wJ fV dv;simp only[HM.go]at bq;obtain ⟨rfl,rfl,rfl⟩:=go_ret bq;have aef:=a7.obj st.heap.length;rw[dv]at aef;obtain ⟨dr,pA,ac0,fE,iv⟩:=aef;have e8:aH st.heap.length=.func (.yield (w.heap.size+1)) #[] #[]:=by rw[c3.iota _ aeb];simp[ee]
   have ih:dr=w.heap.size+1:=Ay (fE.symm.trans e8);subst ih;have gS:pA.state≠ .busy/\(match e with | .nrm=>pA.pending=none |e=>pA.pending=some (PA e)):=by
    rcases iv.st with ⟨bj,bG,dm⟩|⟨bj,bG⟩|⟨eg,bj,bG,dm,cJ⟩
    ·have:e=.nrm:=Gx (H9.symm.trans bj);subst this;exact ⟨by rw[bG];simp,dm⟩
    ·have:=aq6 e;omega
    ·have:e=eg:=Gx (H9.symm.trans bj);subst this;refine ⟨by rw[dm];simp,?_⟩;cases e with
     |nrm=>exact absurd rfl bG
     |ret=>exact cJ
     |exit i=>exact cJ
   have Cj:=run_endLoop (P:=P) iv.heap gS.1;obtain ⟨kg,Rz⟩: ∃kg,ao.putObj (w.heap.size+1) (.loop {pA with state:=.exhausted})=kg:=⟨_,rfl⟩;rw[Rz]at Cj;have aeA:ja ao kg (w.heap.size+1):=by rw[<-Rz];exact ja.putObj _ _ _
   have jK:dG (aH st.heap.length)=some (w.heap.size+1):=by rw[e8];rfl
   obtain ⟨ahF,TD,ahG⟩:=ajT a7 (o:=st.heap.length) (by rw[dv];rfl) jK aeA iv.phi;have ahK:Step φ ι w st.heap dy ι w H1:=g1.step;have zO:=((ahK.trans TG).trans aX).trans TD;have Kh:=((g1.keep.trans TH).trans c3).trans ahG;have aec: ¬jT (ee ι st.heap.length (.func (.yield (w.heap.size+1)) #[] #[])) (bY H1 st.heap.length (.loop Y jv 0)) w.heap.size:=by
    intro h;rcases TG.own _ h with s |s
    ·obtain ⟨o,bj,bG⟩:=h;rw[gA H1 _ _ _ Q0]at bj;split at bj
     ·rename_i W;subst W;have dm:some (w.heap.size+1)=some w.heap.size:=by rw[<-bG];simp[ee,dG]
      have:=eW dm;omega
     ·rename_i W;have gG:(aE H1 o).live=true:=by cases dv:aE H1 o<;>rw[dv]at bj<;>first |rfl |(cases bj)
      rw[xX o gG]at bG;have:=uA g1.rel bj bG;omega
    ·obtain ⟨o,bj,bG⟩:=s;have:=uA g1.rel bj bG;omega
   have atf:ao.heap[w.heap.size]? =some (.deferred (some [])):=(aX.blocks _ (by omega) aec).trans ate;have atg:kg.heap[w.heap.size]? =some (.deferred (some [])):=(aeA.blocks _ (by omega)).trans atf;have auv: ¬jT aH (bY e3 st.heap.length .gone) w.heap.size:=by
    intro h;have bb:=aX.size;rcases (aX.trans TD).own _ h with s |s
    ·omega
    ·exact aec s
   have b0:=cg.defers.1;obtain ⟨ms,dU,c6,fm⟩:=cg.defers.2 ch.2;have hmarks:Marks nt kg (jT aH (bY e3 st.heap.length .gone)) ([xm w.heap.size]++a.defers):=by
    have b1:=(cg.defers.step zO).1;refine ⟨b1,λ_=>⟨w.heap.size::ms,by simp[dU],?_,λr au=> ?_⟩⟩
    ·rw[List.nodup_cons];refine ⟨λhm=> ?_,c6⟩;have:=(kT.1 (fm _ hm).2.1).1;omega
    ·rcases eO.1 au with rfl |au
     ·exact ⟨b0,atg,auv⟩
     ·obtain ⟨bb,aU,ck⟩:=fm r au;have bd:=(kT.1 aU).1;exact ⟨bb,(zO.blocks r bd ck).trans aU,λh=>(zO.own r h).elim (λaC=>by omega) ck⟩
   have ahL:ds av aH kg nt ⟨st.regs,bY e3 st.heap.length .gone⟩ {a with defers:=[xm w.heap.size]++a.defers}:=
    ⟨ahF,λI r al=>by
     have cC:I≠dE:=λe=>by rw[e]at al;rw[al]at Cc;cases Cc
     have b8:=cg.regs I r al;rw[iK cC]at b8 ⊢;exact ⟨K.rel_step zO Kh b8.2 b8.1,λi u=>Kh.live i (b8.2 i u)⟩,cg.nt,cg.small,hmarks⟩
   have fin:=c2 _ kg av aH ahL zO (Kh.keepM _);refine ⟨pA.pending,kg,Cj,?_⟩;have yd:=gS.2;cases e with
   |nrm=>simp only at yd;rw[yd];exact fin
   |ret=>simp only at yd;rw[yd];exact wpIn_ret fin
   |exit i=>simp only at yd;rw[yd];exact wpIn_exit fin
  ·simp[HM.go]at bq
 ·simp[DT.val]at h
theorem NR {R:bO}: ∀(us:List Nat) (l:List K),xg R us=some l-> ∀i∈K.idsL l,∃I r,R.get I=some r/\i∈r.ids
 |[],l,h,i,u=>by simp only[xg,bH]at h;subst h;simp[K.idsL]at u
 |I::us,l,h,i,u=>by
  simp only[xg]at h;split at h
  ·rename_i r au;obtain ⟨m,hm,rfl⟩:=h7.1 h;simp only[K.idsL,dk]at u;rcases u with u |u
   ·exact ⟨I,r,au,u⟩
   ·exact NR us m hm i u
  ·cases h
theorem aqd [Env] {F:bk} {id:Nat} (e:(Po F id st).val=some a8) (cg:ds φ ι w nt st a):ds φ ι w nt a8 a/\a8.heap=st.heap:=by
 unfold Po at e;split at e
 ·simp only[DT.val,bH]at e;subst e;exact ⟨cg,rfl⟩
 ·split at e
  ·rename_i f us aO t e7 _ _ _ A B bu eU di;simp only[DT.val,bH]at e;subst e;refine ⟨⟨cg.heap,λI r al=> ?_,cg.nt,cg.small,cg.defers⟩,rfl⟩;have al:(st.regs.put dE (.dfr f A B t [])).get I=some r:=al;rw[bO.get_put]at al;by_cases mc:I=dE
   ·subst mc;simp only[if_true,bH]at al;subst al;obtain ⟨⟨xs,aZ,ai⟩,-⟩:=cg.regs dE _ bu;simp only[K.relT]at ai;rw[qJ]at aZ ⊢;have CL:xs= #[]:=by cases xs;simpa using ai
    subst CL;refine ⟨⟨[],aZ,rfl,λi x ad ai=>by simp at ai⟩,λi u=> ?_⟩;simp only[K.ids,dk]at u;rcases u with u |u
    ·obtain ⟨I,r,bb,aU⟩:=NR _ _ eU i u;exact (cg.regs I r bb).2 i aU
    ·obtain ⟨I,r,bb,aU⟩:=NR _ _ di i u;exact (cg.regs I r bb).2 i aU
   ·simp only[mc,if_false]at al;exact cg.regs I r al
  ·simp[DT.val]at e
def jJ [Env] (P:cq) (F:bk) (n:Nat):Code->Prop
 | .seq a b=>jJ P F n a/\jJ P F n b
 | .cond _ a b=>jJ P F n a/\jJ P F n b
 | .block _ c=>jJ P F n c
 | .scope c=>jJ P F n c
 | .rangeFunc g ps a b=>(∀Y,F.rfs (I6 a b)=some Y->Env.code Y=some ⟨ps.toList,a,b,n⟩)/\ ∀f∈F.its,∃fn,P.funcs[f]? =some fn/\(fn.name== "runtime.NumGoroutine")=false/\fn.body.isNone=false
 |_=>True
theorem eN [Env] {P:cq} {F:bk} {n:Nat}: ∀(c:Code),eT c=false->jJ P F n c
 | .seq a b,h=>by simp only[eT,Bool.or_eq_false_iff]at h;exact ⟨eN a h.1,eN b h.2⟩
 | .cond _ a b,h=>by simp only[eT,Bool.or_eq_false_iff]at h;exact ⟨eN a h.1,eN b h.2⟩
 | .block _ c,h=>eN c (by simpa [eT] using h)
 | .scope c,h=>eN c (by simpa [eT] using h)
 | .rangeFunc ..,h=>by simp[eT]at h
 | .loop _,_=>trivial
 | .skip,_=>trivial | .region ..,_=>trivial | .exit _,_=>trivial | .label _,_=>trivial | .goto _,_=>trivial | .ret,_=>trivial | .refuse _,_=>trivial
theorem nJ [Env] {F:bk} (tab:cQ P F.cx) (c1:ca P F.Γ) (hm:P.follows .mixedOrders=true): ∀(c:Code) (k:Nat) (st:bz) (e:ed) (a8:bz) (φ:bJ) (ι:Nat->az) (w:bh) (a:Act) (bD:Exit->Act->bh->Prop),(gb F c k st).val=some (e,a8)->
  (∀q∈et c k,hl P F nt.n q.1 q.2)->i8 nt.n c=true->jJ P F nt.n c->iD nt c->ds φ ι w nt st a->gM F.m st.heap->
  (∀bn ao av aH,ds av aH ao nt a8 bn->Step φ ι w st.heap av aH ao a8.heap->ic F.m ι st.heap aH a8.heap->bD (kY e) bn ao)->c.wpIn (eX nt.ro) 0 P bD a w:=by
 intro c
 induction c with
 |skip=>
  intro k st e a8 φ ι w a bD h ab aw cX ch cg lm c2;simp only[gb,DT.val,bH,cV]at h;obtain ⟨rfl,rfl⟩:=h;exact wpIn_skip (c2 a w φ ι cg (Step.refl _ _ _ _) (ic.refl _ _ _))
 |region id ops draw=>
  intro k st e a8 φ ι w a bD h ab aw cX ch cg lm c2;simp only[gb]at h;obtain ⟨cn,s,E⟩:=DT.val_bind_some h;refine apn tab c1 hm s cg aw (λh=>ch.df h) λbn ao av aH cR sp bS=> ?_
  split at E
  ·rename_i ks lM;simp only[DT.val,bH,cV]at E;obtain ⟨rfl,rfl⟩:=E;exact c2 bn ao av aH ⟨cR.heap,λI r al=>cR.regs I r (apI al),cR.nt,cR.small,cR.defers⟩ sp (bS.keepM _)
  ·obtain ⟨eo,O,aC⟩:=DT.val_bind_some E;simp only[DT.val,bH,cV]at aC;obtain ⟨rfl,rfl⟩:=aC;obtain ⟨bj,bG⟩:=aqd O cR;exact c2 bn ao av aH bj (by rw[bG];exact sp) (by rw[bG];exact bS.keepM _)
 |seq x y jj jk=>
  intro k st e a8 φ ι w a bD h ab aw cX ch cg lm c2;simp only[gb]at h;obtain ⟨⟨L,cn⟩,s,E⟩:=DT.val_bind_some h;simp only[i8,bN]at aw;refine wpIn_seq (jj k st L cn φ ι w a _ s (λq aD=>ab q (by simp[et,aD])) aw.1 cX.1 (ch.of (λh=>by simp[eT,h]) (λh=>by simp[gv,h])) cg lm λbn ao av aH cR sp bS=> ?_);cases L with
  |nrm=>
   exact jk k cn e a8 av aH ao bn bD E (λq aD=>ab q (by simp[et,aD])) aw.2 cX.2 (ch.of (λh=>by simp[eT,h]) (λh=>by simp[gv,h])) cR (bS.live lm) λa2 de ec ei kd pE m3=>c2 a2 de ec ei kd (sp.trans pE) (bS.trans m3)
  |exit i=>
   simp only[DT.val,bH,cV]at E;obtain ⟨rfl,rfl⟩:=E;exact c2 bn ao av aH cR sp bS
  |ret=>
   simp only[DT.val,bH,cV]at E;obtain ⟨rfl,rfl⟩:=E;exact c2 bn ao av aH cR sp bS
 |cond c x y jj jk=>
  intro k st e a8 φ ι w a bD h ab aw cX ch cg lm c2;simp only[gb]at h;simp only[i8,bN]at aw;split at h
  ·rename_i t aT;have aZ:=Nl aT (cg.eval c).1;refine wpIn_cond aZ ?_;have key: ∀(gI:bz),ds φ ι w nt gI a->gI.heap=st.heap->(bif t then (gb F x k gI).val else (gb F y k gI).val)=some (e,a8)->(if t then x else y).wpIn (eX nt.ro) 0 P bD a w:=by
    intro gI jP bC h;rw[<-bC]at lm c2;cases t
    ·simp only[ax]at h;simp only[Bool.false_eq_true,if_false];exact jk k gI e a8 φ ι w a bD h (λq aD=>ab q (by simp[et,aD])) aw.2 cX.2 (ch.of (λh=>by simp[eT,h]) (λh=>by simp[gv,h])) jP lm c2
    ·simp only[ak]at h;simp only[if_true];exact jj k gI e a8 φ ι w a bD h (λq aD=>ab q (by simp[et,aD])) aw.1 cX.1 (ch.of (λh=>by simp[eT,h]) (λh=>by simp[gv,h])) jP lm c2
   split at h
   ·rename_i I;have bx:st.regs.get I=some (.dat .bool t):=by
     simp only[h2]at aT;cases q3:Nat.beq I dE with
     |true=>simp[q3,mo]at aT
     |false=>
     simp only[q3,ax]at aT;cases al:st.regs.get I with
     |none=>rw[al]at aT;simp[mo]at aT
     |some r=>
      rw[al]at aT;have:=zZ (R:=st.regs) (I:=I) (b:=t) (by rw[al];exact aT);rw[al]at this;exact this
    have jP:ds φ ι w nt ⟨refine st.regs I t,st.heap⟩ a:=cg.regs_eq (tB bx);refine key ⟨refine st.regs I t,st.heap⟩ jP rfl ?_;cases t
    ·simp only[DT.val,ax]at h ⊢;exact h
    ·simp only[DT.val,ak]at h ⊢;exact h
   ·exact key st cg rfl (by simpa only[DT.val] using h)
  ·simp[DT.val]at h
 |block id c aQ=>
  intro k st e a8 φ ι w a bD h ab aw cX ch cg lm c2;simp only[gb]at h;obtain ⟨⟨L,cn⟩,s,E⟩:=DT.val_bind_some h;refine wpIn_block (aQ id st L cn φ ι w a _ s (λq aD=>ab q (by simpa [et] using aD)) aw cX (ch.of (λh=>by simpa [eT] using h) (λh=>by simpa [gv] using h)) cg lm λbn ao av aH cR sp bS=> ?_);cases L with
  |nrm=>
   simp only[DT.val,bH,cV]at E;obtain ⟨rfl,rfl⟩:=E;exact c2 bn ao av aH cR sp bS
  |exit i=>
   simp only at E;cases J:Nat.beq i id
   ·simp only[J,ax,DT.val,bH,cV]at E;obtain ⟨rfl,rfl⟩:=E;have cC: ¬i=id:=λh=>by subst h;simp at J
    simp only[kY,Exit.inBlock,if_neg cC];exact c2 bn ao av aH cR sp bS
   ·simp only[J,ak,DT.val,bH,cV]at E;obtain ⟨rfl,rfl⟩:=E;have:i=id:=by simpa using J
    simp only[kY,Exit.inBlock,if_pos this];exact c2 bn ao av aH cR sp bS
  |ret=>
   simp only[DT.val,bH,cV]at E;obtain ⟨rfl,rfl⟩:=E;exact c2 bn ao av aH cR sp bS
 |scope c aQ=>
  intro k st e a8 φ ι w a bD h ab aw cX ch cg lm c2;simp only[gb]at h;refine aam (aQ k st e a8 φ ι w a _ h (λq aD=>ab q (by simpa [et] using aD)) aw cX (ch.of (λh=>by simpa [eT] using h) (λh=>by simpa [gv] using h)) cg lm λbn ao av aH cR sp bS=> ?_);have:=c2 bn ao av aH cR sp bS;cases e<;>exact this
 |label l=>
  intro k st e a8 φ ι w a bD h ab aw cX ch cg lm c2;simp only[gb,DT.val,bH,cV]at h;obtain ⟨rfl,rfl⟩:=h;exact wpIn_label (c2 a w φ ι cg (Step.refl _ _ _ _) (ic.refl _ _ _))
 |loop c aQ=>
  intro k st e a8 φ ι w a bD h ab aw cX ch cg lm c2;simp only[gb]at h;exact ab (k,c) (by simp[et]) nt st e a8 φ ι w a bD rfl ch h cg lm c2
 |exit id=>
  intro k st e a8 φ ι w a bD h ab aw cX ch cg lm c2;simp only[gb,DT.val,bH,cV]at h;obtain ⟨rfl,rfl⟩:=h;exact wpIn_exit (c2 a w φ ι cg (Step.refl _ _ _ _) (ic.refl _ _ _))
 |ret=>
  intro k st e a8 φ ι w a bD h ab aw cX ch cg lm c2;simp only[gb,DT.val,bH,cV]at h;obtain ⟨rfl,rfl⟩:=h;exact wpIn_ret (c2 a w φ ι cg (Step.refl _ _ _ _) (ic.refl _ _ _))
 |rangeFunc g ps x y=>
  intro k st e a8 φ ι w a bD h ab aw cX ch cg lm c2;simp only[gb]at h;split at h
  ·rename_i Y Qx;exact ahV tab c1 (cX.1 Y Qx) cX.2 h (ch.rf rfl) cg lm c2
  ·simp[DT.val]at h
 |_=>
  intro k st e a8 φ ι w a bD h;simp[gb,DT.val]at h
def bL.fin (ar:bL):ar.Out->ed×bz
 | .inl x=>(ar.x,ar.X.enc x)| .inr y=>(ar.y,ar.Y.enc y)
theorem ed.is_eq {e f:ed} (h:e.is f=true):e=f:=by cases e<;>cases f<;>simp only[ed.is,reduceCtorEq]at h<;>first |rfl |(have:=Nat.eq_of_beq_eq_true h;subst this;rfl)|cases h
theorem bL.out_sound [Env] {ar:bL} {m:Nat} {e:ed} {st:bz} {o:ar.Out} (h:(ar.out m e st).val=some o) (cg:ds φ ι w nt st a) (lm:gM m st.heap):
  e=(ar.fin o).1/\ ∃av aH,ds av aH w nt (ar.fin o).2 a/\Step φ ι w st.heap av aH w (ar.fin o).2.heap/\ic m ι st.heap aH (ar.fin o).2.heap:=by
 unfold bL.out at h;cases s:e.is ar.x
 ·simp only[s,ax]at h;cases E:e.is ar.y
  ·simp[E,DT.val]at h
  ·simp only[E,ak]at h;obtain ⟨y,L,aa⟩:=DT.val_bind_some h;simp only[DT.val,bH]at aa;subst aa;obtain ⟨av,aH,bb,aU,ck,-,-⟩:=lH L cg lm;exact ⟨ed.is_eq E,av,aH,bb,aU,ck⟩
 ·simp only[s,ak]at h;obtain ⟨x,L,aa⟩:=DT.val_bind_some h;simp only[DT.val,bH]at aa;subst aa;obtain ⟨av,aH,bb,aU,ck,-,-⟩:=lH L cg lm;exact ⟨ed.is_eq s,av,aH,bb,aU,ck⟩
theorem aby {e:ed} {next:Act->bh->Prop} {bD:Exit->Act->bh->Prop} {a:Act} {w:bh} (he:e≠ .nrm):Exit.then next bD (kY e) a w=bD (kY e) a w:=by cases e<;>first |rfl |exact absurd rfl he
theorem aqX [Env] {F:bk} (tab:cQ P F.cx) (c1:ca P F.Γ) (hm:P.follows .mixedOrders=true) {ar:bL} {c:Code} {k:Nat} {n:Nat} {f:ar.S.ty.den->Option ar.Out} (nG:F.Λ k=ar.go f F.m) (dO: ∀q∈et c k,hl P F n q.1 q.2) (aw:i8 n c=true) (cX:jJ P F n c)
  (aL: ∀d o,f d=some o-> ∃n,eI (λd=>(ar.body F c k d).val) n d=some o):hl P F n k c:=by
 intro nt st e a8 φ ι w a bD aR ch h cg lm c2;subst aR;rw[nG]at h;unfold bL.go at h;obtain ⟨d,L,aa⟩:=DT.val_bind_some h;obtain ⟨dy,fg,bb,aU,ck,ep,hz⟩:=lH L cg lm;obtain ⟨o,W,he⟩: ∃o,f d=some o/\(e,a8)=ar.fin o:=by
  cases j4:f d with
  |none=>simp[j4,DT.val]at aa
  |some o=>
   refine ⟨o,rfl,?_⟩;cases o with
   |inl x=>simp only[j4,DT.val,bH]at aa;exact aa.symm
   |inr y=>simp only[j4,DT.val,bH]at aa;exact aa.symm
 obtain ⟨n,aR⟩:=aL d o W;refine wpIn_loop_rounds n ?_;have key: ∀n d φ ι w a,eI (λd=>(ar.body F c k d).val) n d=some o->ds φ ι w nt (ar.S.enc d) a->gM F.m (ar.S.enc d).heap->
   (∀bn ao av aH,ds av aH ao nt (ar.fin o).2 bn->Step φ ι w (ar.S.enc d).heap av aH ao (ar.fin o).2.heap->ic F.m ι (ar.S.enc d).heap aH (ar.fin o).2.heap->bD (kY (ar.fin o).1) bn ao)->Code.roundsIn (eX nt.ro) 0 P c bD n a w:=by
  intro n
  induction n with
  |zero=>intro d φ ι w a h;cases h
  |succ n aQ=>
   intro d φ ι w a h cg lm c2;simp only[eI]at h;rw[roundsIn_succ];cases J:(ar.body F c k d).val with
   |none=>simp[J]at h
   |some r=>
    simp only[J]at h;have h4:=J;unfold bL.body at h4;obtain ⟨⟨L,cn⟩,s,E⟩:=DT.val_bind_some h4;refine nJ tab c1 hm c k _ L cn φ ι w a _ s dO aw cX (ch.of (λh=>h) (λh=>h)) cg lm λbn ao av aH cR sp bS=> ?_
    by_cases mT:L=.nrm
    ·subst mT;obtain ⟨t,O,aC⟩:=DT.val_bind_some E;simp only[DT.val,bH]at aC;subst aC;simp only at h;obtain ⟨ec,ei,dU,c6,fm,lS,qh⟩:=lH O cR (bS.live lm);exact aQ t ec ei ao bn h dU (fm.live (bS.live lm)) λa2 de mB mA Dw SD R5=>c2 a2 de mB mA Dw ((sp.trans c6).trans SD) ((bS.trans fm).trans R5)
    ·rw[aby mT];have ba:((ar.out F.m L cn).bind λo=>DT.leaf (Sum.inr (α:=ar.S.ty.den) o)).val=some r:=by
      cases L with
      |nrm=>exact absurd rfl mT
      |exit i=>exact E
      |ret=>exact E
     obtain ⟨jE,O,aC⟩:=DT.val_bind_some ba;simp only[DT.val,bH]at aC;subst aC;simp only[bH]at h;subst h;obtain ⟨me,ec,ei,dU,c6,fm⟩:=bL.out_sound O cR (bS.live lm);rw[me];exact c2 bn ao ec ei dU (sp.trans c6) (bS.trans fm)
 have sS:e=(ar.fin o).1/\a8=(ar.fin o).2:=by rw[<-he];exact ⟨rfl,rfl⟩
 refine key n d dy fg w a aR bb (ck.live lm) λbn ao av aH cR sp bS=> ?_
 have:=c2 bn ao av aH;rw[sS.1,sS.2]at this;exact this cR (aU.trans sp) (ck.trans bS)
end
open Go.RowKit
section
variable {P:cq} {cx:cd} {φ:bJ} {ι:Nat->az} {w:bh} {H:List aF} {n:Nat} {aA:List aF} {aI:Nat}
theorem nW {n base:Nat} {ro:Option Nat} {nm:Bool} {w:bh} {Own:Nat->Prop} (h:base<=w.heap.size):Marks ⟨n,base,[],ro,nm⟩ w Own []:=⟨h,λ_=>⟨[],rfl,List.nodup_nil,by simp⟩⟩
theorem xc {f:FuncId} {fn:Func} {c:Code} {args:Array az} {w:bh} {R:Ending->bh->Prop} (aL:P.funcs[f]? =some fn) (J:fn.body=some c)
  (h:c.wpIn (eX none) 0 P (bodyPostM (eX none) 0 P fn R) {tmps:=args++Array.replicate (fn.ntmps-args.size) undef,defers:=[]} w):Calls P f args w R:=
 (callsIn_wide (n:=0)).1 (callsIn_of_wp_marks aL J trivial h rfl)
structure E1 [Env] (φ:bJ) (ι:Nat->az) (w:bh) (st:bz) (a:Act):Prop where
 heap:cc φ ι w st.heap
 regs: ∀I r,I≠dE->st.regs.get I=some r->r.rel φ ι w (a.tmps.getD I undef)/\ ∀i∈r.ids,(aE st.heap i).live=true
theorem ds.rr [Env] {nt:js} {st:bz} {a:Act} (d:ds φ ι w nt st a):E1 φ ι w st a:=⟨d.heap,λI r cC h=>by have:=d.regs I r h;rwa [iK cC]at this⟩
theorem Ef [Env] {fn:Func} {e:ed} {R:Ending->bh->Prop} {n:Nat} {av:bJ} {aH:Nat->az} {ao:bh} {cn:bz} {bn:Act} (he:e=.nrm\/e=.ret) (cg:ds av aH ao ⟨n,w.heap.size,[],none,false⟩ cn bn) (sp:Step φ ι w H av aH ao cn.heap)
  (ib: ∀de,E1 av aH de cn bn->Step φ ι w H av aH de cn.heap-> ∃v,(results fn bn.tmps).run P de=.ok v de/\R (.returned v) de):bodyPostM (eX none) 0 P fn R (kY e) bn ao:=by
 have key: ∀(ms:List Nat) (ao:bh),E1 av aH ao cn bn->Step φ ι w H av aH ao cn.heap->ms.Nodup->(∀r∈ms,w.heap.size<=r/\ao.heap[r]? =some (.deferred (some []))/\ ¬jT aH cn.heap r)->
   LeavesInM (eX none) 0 P fn bn.tmps R (ms.map xm) .returning ao:=by
  intro ms
  induction ms with
  |nil=>intro ao cg sp _ _;exact ib ao cg sp
  |cons r ms aQ=>
   intro ao cg sp aR au;obtain ⟨bb,aU,ck⟩:=au r (by simp);refine ⟨by simp,.inl ⟨r,ao.putObj r (.deferred none),rfl,run_takeDeferred aU,aQ _ ?_ ?_ (List.nodup_cons.1 aR).2 λd ae=> ?_⟩⟩
   ·have cC: ∀b k,av b k->b≠r:=by rintro b k J rfl;obtain ⟨v,aZ⟩:=cg.heap.phi b k J;simp[World.cell?,aU]at aZ
    have fT: ∀b k,av b k->(ao.putObj r (.deferred none)).cell? ⟨b,k,none⟩=ao.cell? ⟨b,k,none⟩:=λb k J=>(ja.putObj ao r _).cell (cC b k J)
    refine ⟨cg.heap.update (λ_=>False) (λ_ _=>rfl) (λ_ _=>rfl) (λ_ h=>h) (λ_ h=>h.elim) (λ_ h=>h.elim) (λi b _ W J=>World.putObj_heap_other (λe=>ck ⟨i,W,e▸J⟩)) fT (λ_ _ _ h=>h.elim),λI x cC al=> ?_⟩;exact ⟨K.rel_mono (λ_ _ h=>h) fT x _ (λ_ _=>rfl) (cg.regs I x cC al).1,(cg.regs I x cC al).2⟩
   ·have cC: ∀b k,av b k->b≠r:=by rintro b k J rfl;obtain ⟨v,aZ⟩:=cg.heap.phi b k J;simp[World.cell?,aU]at aZ
    exact ⟨sp.phi,λb k J=>((ja.putObj ao r _).cell (cC b k (sp.phi b k J))).trans (sp.cells b k J),sp.newphi,by simpa [World.putObj] using sp.size,sp.os,sp.tape,sp.output,λb J W=>(World.putObj_heap_other (by omega)).trans (sp.blocks b J W),sp.own⟩
   ·obtain ⟨bj,bG,dm⟩:=au d (by simp[ae]);have Rp:d≠r:=by rintro rfl;exact (List.nodup_cons.1 aR).1 ae
    exact ⟨bj,(World.putObj_heap_other Rp).trans bG,dm⟩
 have b0:=cg.defers.1;obtain ⟨ms,dU,c6,fm⟩:=cg.defers.2 rfl;have dU:bn.defers=ms.map xm:=by simpa using dU
 have b8:LeavesInM (eX none) 0 P fn bn.tmps R bn.defers .returning ao:=by rw[dU];exact key ms ao cg.rr sp c6 fm
 rcases he with rfl |rfl
 ·exact b8
 ·exact b8
def xh (a:Act):ResultVar->Sem az
 | .tmp t=>pure (a.tmps.getD t undef)
 | .cell c t=>do loadVar t (<-asAddr (a.tmps.getD c undef))
theorem vW [Env] (tab:cQ P cx) {R:bO} {a:Act}: ∀(l:List ResultVar) (j:Nat) (eH:bO) (H:List aF) (n:Nat) (aA:List aF) (aI:Nat),(lX cx R j l).go H n=some (eH,aA,aI)->cc φ ι w H->(∀I r,I≠dE->R.get I=some r->r.rel φ ι w (a.tmps.getD I undef)/\ ∀i∈r.ids,(aE H i).live=true)->
  aA=H/\aI=n/\ ∃aO:List az,(l.mapM (xh a)).run P w=.ok aO w/\aO.length=l.length/\eH.map (·.1)=List.range' j l.length/\
   ∀(i:Nat) (x:Nat×K),eH[i]? =some x-> ∃v,aO[i]? =some v/\x.2.rel φ ι w v/\ ∀k∈x.2.ids,(aE H k).live=true
 |[],j,eH,H,n,aA,aI,e,h,au=>by simp only[lX]at e;obtain ⟨rfl,rfl,rfl⟩:=go_ret e;exact ⟨rfl,rfl,[],by simp,rfl,rfl,λi x ai=>by simp at ai⟩
 |v::l,j,eH,H,n,aA,aI,e,h,au=>by
  simp only[lX]at e;obtain ⟨r,H1,c8,L,aa⟩:=HM.go_bind_some e;obtain ⟨fB,e3,dP,a1,bq⟩:=HM.go_bind_some aa;obtain ⟨rfl,rfl,rfl⟩:=go_ret bq;have Rj: ∀t,(h2 R (.tmp t)).rel φ ι w (a.tmps.getD t undef)/\ ∀i∈(h2 R (.tmp t)).ids,(aE H i).live=true:=by
   intro t;simp only[h2];cases J:Nat.beq t dE with
   |true=>exact ⟨trivial,by simp[K.ids]⟩
   |false=>
    simp only[ax];cases aT:R.get t with
    |none=>exact ⟨trivial,by simp[K.ids]⟩
    |some x=>exact au t x (λe=>by subst e;simp at J) aT
  have q:H1=H/\c8=n/\ ∃ad,(xh a v).run P w=.ok ad w/\r.rel φ ι w ad/\ ∀i∈r.ids,(aE H i).live=true:=by
   cases v with
   |tmp t=>
    obtain ⟨rfl,rfl,rfl⟩:=go_ret L;exact ⟨rfl,rfl,_,by simp[xh],(Rj t).1,(Rj t).2⟩
   |cell c t=>
    obtain ⟨bj,bG,ad,-,dm,cJ,fW⟩:=ZR tab L h (Rj c).1;exact ⟨bj,bG,ad,dm,cJ,fW⟩
  obtain ⟨bj,bG,ad,hu,Rm,aum⟩:=q;subst bj bG;obtain ⟨bj,bG,us,mj,hlen,HY,gE⟩:=vW tab l (j+1) fB H1 c8 _ _ a1 h au;refine ⟨bj,bG,ad::us,?_,by simp[hlen],by simp[HY,List.range'_succ],λi x ai=> ?_⟩
  ·rw[List.mapM_cons];simp only[Sem.run_bind,hu,Result.andThen_ok,mj,Sem.run_pure]
  ·cases i with
   |zero=>
    obtain rfl:(j,r)=x:=by simpa using ai
    exact ⟨ad,rfl,Rm,aum⟩
   |succ i=>
    obtain ⟨v,s,E⟩:=gE i x (by simpa using ai);exact ⟨v,by simpa using s,E⟩
theorem vX {fn:Func} {a:Act} {aO:List az} (h:(fn.results.toList.mapM (xh a)).run P w=.ok aO w):(results fn a.tmps).run P w=.ok (if h:aO.toArray.size=1 then aO.toArray[0] else .tuple aO.toArray) w:=by
 have hm:(fn.results.mapM (xh a)).run P w=.ok aO.toArray w:=by rw[Array.mapM_eq_mapM_toList];rw[<-bind_pure_comp];simp only[Sem.run_bind,h,Result.andThen_ok,Sem.run_pure]
 have he:results fn a.tmps=(do let aO<-fn.results.mapM (xh a);pure (if h:aO.size=1 then aO[0] else .tuple aO)):=rfl;rw[he];simp only[Sem.run_bind,hm,Result.andThen_ok,Sem.run_pure]
theorem abK: ∀(R:bO) (i k:Nat) (x:Nat×K),R.map (·.1)=List.range' i R.length->R[k]? =some x->x.1=i+k/\R.get (i+k)=some x.2
 |[],i,k,x,af,ai=>by simp at ai
 |(I,r)::R,i,k,x,af,ai=>by
  simp only[List.map_cons,gn,List.range'_succ,List.cons.injEq]at af;obtain ⟨rfl,af⟩:=af;cases k with
  |zero=>
   obtain rfl:(I,r)=x:=by simpa using ai
   refine ⟨rfl,?_⟩;simp[bO.get]
  |succ k=>
   have aQ:=abK R (I+1) k x af (by simpa using ai);refine ⟨by omega,?_⟩;have:Nat.beq (I+(k+1)) I=false:=xb (by omega);simp only[bO.get,this,ax];rw[show I+(k+1)=I+1+k by omega];exact aQ.2
theorem m6: ∀(R:bO) (i I:Nat) (r:K),R.map (·.1)=List.range' i R.length->R.get I=some r-> ∃k,I=i+k/\R[k]? =some (I,r)
 |[],i,I,r,af,ai=>by simp[bO.get]at ai
 |(e,x)::R,i,I,r,af,ai=>by
  simp only[List.map_cons,gn,List.range'_succ,List.cons.injEq]at af;obtain ⟨rfl,af⟩:=af;simp only[bO.get]at ai;cases J:Nat.beq I e
  ·simp only[J,ax]at ai;obtain ⟨k,s,E⟩:=m6 R (e+1) I r af ai;exact ⟨k+1,by omega,by simpa using E⟩
  ·simp only[J,ak,bH]at ai;have:I=e:=by simpa using J
   subst this ai;exact ⟨0,rfl,rfl⟩
theorem wS {R:bO} {a:Act} (af:R.map (·.1)=List.range' 0 R.length) (ae:R.length<=dE) (h: ∀I r,R.get I=some r->r.rel φ ι w (na a I)/\ ∀i∈r.ids,(aE H i).live=true):mH φ ι w H R (λI=>a.tmps.getD I undef):=λI r al=>by
 obtain ⟨k,s,E⟩:=m6 R 0 I r af al;have bd:=(iC.1 E).1;have:=h I r al
 rwa [iK (by omega)]at this
theorem aaf: ∀(l:List K) (aO:List az),l.length=aO.length->(∀(i:Nat) x v,l[i]? =some x->aO[i]? =some v->x.rel φ ι w v)->K.relT φ ι w l aO
 |[],[],_,_=>rfl
 |[],_::_,h,_=>by simp at h
 |_::_,[],h,_=>by simp at h
 |x::l,v::aO,h,k=>⟨v,aO,rfl,k 0 x v rfl rfl,aaf l aO (by simpa using h) λi y ad s E=>k (i+1) y ad (by simpa using s) (by simpa using E)⟩
theorem aiK {l:List K} {v:az} (h: ∃aO,v=.tuple aO/\K.relT φ ι w l aO.toList):(K.tup l).rel φ ι w v:=h
theorem abF: ∀(l:List K) (p:Nat->Prop),(∀x∈l,∀i∈x.ids,p i)-> ∀i∈K.idsL l,p i
 |[],p,_,i,u=>by simp[K.idsL]at u
 |x::l,p,h,i,u=>by
  simp only[K.idsL,dk]at u;rcases u with u |u
  ·exact h x (by simp) i u
  ·exact abF l p (λy bo=>h y (by simp[bo])) i u
theorem uL {R:bO} {aO:Array az} (af:R.map (·.1)=List.range' 0 R.length) (hlen:R.length=aO.size) (au:mH φ ι w H R (λI=>aO.getD I undef)):
  (kf R).rel φ ι w (if h:aO.size=1 then aO[0] else .tuple aO)/\ ∀i∈(kf R).ids,(aE H i).live=true:=by
 have gE: ∀(i:Nat) x,R[i]? =some x->R.get i=some x.2:=λi x ai=>by have:=(abK R 0 i x af ai).2;simpa using this
 unfold kf;split
 ·rename_i I r;have s:aO.size=1:=by simpa using hlen.symm
  have E:r.rel φ ι w (aO.getD 0 undef)/\ ∀i∈r.ids,(aE H i).live=true:=au 0 r (gE 0 (I,r) rfl);rw[dif_pos s];have:aO.getD 0 undef=aO[0]:=by simp[iX,s]
  rw[this]at E;exact E
 ·rename_i cC;have s: ¬aO.size=1:=by
   intro h;rw[h]at hlen
   match R,hlen with
   |[(I,r)],_=>exact cC I r rfl
  rw[dif_neg s];refine ⟨aiK ⟨aO,rfl,aaf _ _ (by simp[hlen]) λi x v ai aZ=> ?_⟩,?_⟩
  ·simp only[List.getElem?_map,h7]at ai;obtain ⟨y,bo,rfl⟩:=ai;have E:y.2.rel φ ι w (aO.getD i undef):=(au i y.2 (gE i y bo)).1;have:aO.getD i undef=v:=by
    have eZ:aO[i]? =some v:=by simpa using aZ
    simp[iX,eZ]
   rwa [this]at E
  ·simp only[K.ids];refine abF _ (λi=>(aE H i).live=true) λx ai=> ?_
   obtain ⟨y,bo,rfl⟩:=List.mem_map.1 ai;obtain ⟨i,u⟩:=List.mem_iff_getElem?.1 bo;exact (au i y.2 (gE i y u)).2
theorem oC: ∀(l:List K) (i:Nat),(fQ i l).map (·.1)=List.range' i l.length/\(fQ i l).length=l.length/\ ∀(k:Nat) (x:Nat×K),(fQ i l)[k]? =some x->l[k]? =some x.2
 |[],i=>⟨rfl,rfl,λk x h=>by simp[fQ]at h⟩
 |r::l,i=>by
  obtain ⟨s,E,O⟩:=oC l (i+1);refine ⟨by simp[fQ,s,List.range'_succ],by simp[fQ,E],λk x h=> ?_⟩;cases k with
  |zero=>
   obtain rfl:(i,r)=x:=by simpa [fQ] using h
   rfl
  |succ k=>simpa using O k x (by simpa [fQ] using h)
theorem vU: ∀(d:List (Nat×cm)) (l rest:List eD) (R:bO),qw d l=some (R,rest)->R.map (·.1)=d.map (·.1)
 |[],l,rest,R,h=>by simp only[qw,bH,cV]at h;obtain ⟨rfl,-⟩:=h;rfl
 |(I,d)::mu,l,rest,R,h=>by
  simp only[qw]at h;split at h
  ·rename_i x fB ai;obtain ⟨p,aP,E⟩:=h7.1 h;simp only[cV]at E;obtain ⟨rfl,rfl⟩:=E;simp[vU mu fB p.2 p.1 aP]
  ·cases h
def nn (fn:Func) (S Z:Shape):Bool:=
 (match fn.body with |some c=>i8 fn.ntmps c&& !gv c&&Nat.ble fn.ntmps dE&&Nat.ble fn.results.size dE |none=>false)&& !(fn.name== "runtime.NumGoroutine")&&Nat.ble S.regs.length fn.ntmps&&decide (Z.regs.map (·.1)=List.range' 0 fn.results.size)
theorem y2: ∀(d:List (Nat×cm)) (R:bO) (l:List eD),iV d R=some l->R.length=d.length
 |[],[],_,_=>rfl
 |[],_::_,_,h=>by simp[iV]at h
 |_::_,[],_,h=>by simp[iV]at h
 |(I,d)::mu,(e,r)::R,l,h=>by
  simp only[iV]at h;cases J:Nat.beq I e
  ·simp[J]at h
  ·simp only[J,ak]at h;split at h
   ·rename_i a aS;obtain ⟨b,J,-⟩:=h7.1 h;simp[y2 mu R b J]
   ·cases h
theorem ar5 [Env] {F:bk} (tab:cQ P F.cx) (c1:ca P F.Γ) (hm:P.follows .mixedOrders=true) {f:FuncId} {fn:Func} {c:Code} {S Z:Shape} (aL:P.funcs[f]? =some fn) (J:fn.body=some c) (cy:nn fn S Z=true) (dO: ∀q∈et c 0,hl P F fn.ntmps q.1 q.2) (cX:jJ P F fn.ntmps c)
  {args:List K} (fb:F.m=S.objs.length) {d:S.ty.den} {z:Z.ty.den} (ae:S.dec ⟨fQ 0 args,H⟩=some d) (e:(mM F fn S Z d).val=some z):kh P f args H (kf (Z.enc z).regs) (Z.enc z).heap:=by
 have gR:=Shape.dec_enc ae;simp only[nn,J,bN,eJ,dJ]at cy;obtain ⟨⟨⟨⟨⟨⟨ow,jL⟩,h6⟩,ik⟩,nB⟩,nC⟩,nD⟩:=cy;have h6:=gV h6;have ik:=gV ik;have iH:args.length=S.regs.length/\H.length=S.objs.length:=by
  unfold Shape.dec at ae;simp only at ae;cases aS:iV S.regs (fQ 0 args) with
  |none=>simp[aS]at ae
  |some x=>
   cases J:fR S.objs H with
   |none=>simp[aS,J]at ae
   |some y=>
    refine ⟨by rw[<-y2 _ _ _ aS,(oC args 0).2.1],?_⟩;have: ∀(d:List dX) (R:List aF) (l:List eD),fR d R=some l->R.length=d.length:=by
     intro d
     induction d with
     |nil=>intro R l h;cases R<;>simp[fR]at h ⊢
     |cons a d aQ=>
      intro R l h;cases R with
      |nil=>simp[fR]at h
      |cons b R=>
       simp only[fR]at h;split at h
       ·obtain ⟨b,J,-⟩:=h7.1 h;simp[aQ R b J]
       ·cases h
    exact this _ _ _ J
 unfold mM at e;rw[J]at e;simp only[Option.getD_some]at e;obtain ⟨⟨L,cn⟩,s,E⟩:=DT.val_bind_some e;have O:L=.nrm\/L=.ret:=by
  cases L with
  |nrm=>exact .inl rfl
  |ret=>exact .inr rfl
  |exit i=>simp[DT.val]at E
 have aC:(((lX F.cx cn.regs 0 fn.results.toList).run cn.heap cn.heap.length .none).bind λ(R,h,_,_)=>Z.take F.m ⟨R,h⟩).val=some z:=by rcases O with rfl |rfl<;>exact E
 obtain ⟨⟨R,ba,mn,tv⟩,bF,dN⟩:=DT.val_bind_some aC;have j1:=HM.go_run _ _ _ _ _ _ _ _ bF;have kH:(Z.enc z).regs.map (·.1)=List.range' 0 fn.results.size:=by
  obtain ⟨⟨a8,bC,yA,pp⟩,bb,aU⟩:=DT.val_bind_some dN;simp only[DT.val_ofOpt]at aU;have ck:(Z.enc z).regs.map (·.1)=Z.regs.map (·.1):=by
   unfold Shape.dec at aU;cases aS:iV Z.regs a8.regs with
   |none=>simp[aS]at aU
   |some x=>
    cases J:fR Z.objs a8.heap with
    |none=>simp[aS,J]at aU
    |some y=>
     have:=rD _ _ x [] aS;rw[Shape.dec_enc (st:=a8) (by simp only[Shape.dec,aS,J]at aU ⊢;exact aU)];exact vU _ _ _ _ this
  rw[ck,nD]
 refine ⟨⟨fn,aL,nB,by rw[J];rfl⟩,?_⟩
 ·intro φ ι w aO eh e9 fA fk;refine xc aL J ?_;have eB:aO.size=args.length:=by
   have: ∀(l:List K) (aO:List az),K.relT φ ι w l aO->aO.length=l.length:=by
    intro l
    induction l with
    |nil=>intro aO h;simp only[K.relT]at h;simp[h]
    |cons r l aQ=>intro aO h;obtain ⟨v,m,rfl,-,h⟩:=h;simp[aQ m h]
   simpa using this _ _ fA
  have dT:aO.size<=fn.ntmps:=by rw[eB,iH.1];exact gV nC
  have lo:ds φ ι w ⟨fn.ntmps,w.heap.size,[],none,false⟩ (S.enc d) {tmps:=aO++Array.replicate (fn.ntmps-aO.size) undef,defers:=[]}:=by
   rw[gR];refine ⟨eh,λI r al=> ?_,by simp;omega,h6,nW (b7 _)⟩;obtain ⟨bb,aU,ck⟩:=oC args 0;obtain ⟨k,af,hk⟩:=m6 _ 0 I r (by rw[bb,aU]) al;have gF:I=k:=by omega
   subst gF;have bx:=ck I (I,r) hk;simp only at bx;obtain ⟨v,aZ,ji⟩:=tY fA bx;have eZ:aO[I]? =some v:=by simpa using aZ
   have lL:I<aO.size:=(kT.1 eZ).1;have:(aO++Array.replicate (fn.ntmps-aO.size) undef).getD I undef=v:=by rw[iX,Array.getElem?_append_left lL,eZ];rfl
   rw[iK (by omega),this];exact ⟨ji,λi u=>fk i (tV bx i u)⟩
  have ph:(S.enc d).heap=H:=by rw[gR]
  have jC:gM F.m (S.enc d).heap:=by rw[ph,fb,<-iH.2];exact λo W=>e9 o W
  refine nJ tab c1 hm c 0 _ L cn φ ι w _ _ s dO ow cX (iD.fn jL) lo jC λbn ao av aH cR sp bS=> ?_
  rw[ph]at sp;refine Ef O cR sp λao cR sp=> ?_
  have lj:=bS.live jC;obtain ⟨bj,bG,us,dm,cJ,fW,hU⟩:=vW tab fn.results.toList 0 R cn.heap _ ba mn j1 cR.heap cR.regs;have ko:R.length=us.length:=by have:=congrArg List.length fW;simpa [cJ] using this
  have kd:ds av aH ao ⟨us.toArray.size,0,[],none,false⟩ ⟨R,ba⟩ {tmps:=us.toArray,defers:=[]}:=by
   rw[bj];refine ⟨cR.heap,λI r al=> ?_,rfl,by rw[List.size_toArray,cJ];simpa using ik,nW (Nat.zero_le _)⟩;obtain ⟨k,af,hk⟩:=m6 R 0 I r (by rw[fW];congr 1;omega) al;have gF:I=k:=by omega
   subst gF;obtain ⟨v,aZ,ji,gG⟩:=hU I (I,r) hk;have:us.toArray.getD I undef=v:=by simp[iX,aZ]
   have lL:I<us.length:=(iC.1 aZ).1;have Rg:fn.results.toList.length=fn.results.size:=by simp
   rw[iK (by omega)];simp only[this];exact ⟨ji,gG⟩
  obtain ⟨ec,ei,dU,c6,fm,lS,qh⟩:=lH dN kd (by rw[bj];exact lj);have hP:(Z.enc z).regs.length=us.toArray.size:=by have:=congrArg List.length kH;simp only[List.length_map,List.length_range']at this;rw[this];simp[cJ]
  obtain ⟨ah,aJ⟩:=uL (aO:=us.toArray) (R:=(Z.enc z).regs) (by rw[kH];congr 1;simpa [cJ] using hP.symm) hP (wS (a:={tmps:=us.toArray,defers:=[]}) (by rw[kH];congr 1;simpa [cJ] using hP.symm) (by rw[hP,List.size_toArray,cJ];simpa using ik) dU.regs);have mi:=vX dm;refine ⟨_,mi,_,ec,ei,rfl,dU.heap,?_,?_,ah,aJ⟩
  ·rw[bj]at c6;exact sp.trans c6
  ·rw[ph]at bS;rw[bj]at fm;have iJ:=bS.trans fm;refine ⟨λo W=> ?_,λo W=> ?_⟩
   ·have bd:o<F.m:=by rw[fb,<-iH.2];exact gB W
    exact (iJ o bd W).1
   ·have bd:o<F.m:=by rw[fb,<-iH.2];exact gB W
    exact (iJ o bd W).2
end
open Go.RowKit
def cF [Env] (P:cq) (cM:aV):Prop:= ∀args H d z,cM.S.dec ⟨fQ 0 args,H⟩=some d->cM.g d=some z->kh P cM.f args H (kf (cM.Z.enc z).regs) (cM.Z.enc z).heap
def qQ [Env] (P:cq) (cM:aV):Prop:= ∀args H d z,cM.S.dec ⟨fQ 0 args,H⟩=some d->cM.g d=some z->wx P cM.f args H (kf (cM.Z.enc z).regs) (cM.Z.enc z).heap
theorem cF.x [Env] {P:cq} {cM:aV} (h:cF P cM) (aL:jo cM.f=false):qQ P cM:=λargs H d z s E=>(h args H d z s E).x aL
theorem ZS [Env] {P:cq}: ∀(l:List aV),(∀cM∈l,qQ P cM)->ca P (hL l)
 |[],_,f,args,H,r,aA,e=>by simp[hL,DT.val]at e
 |cM::l,ab,f,args,H,r,aA,e=>by
  have aQ:=ZS l λcM iT=>ab cM (by simp[iT])
  simp only[hL]at e;cases J:Nat.beq f cM.f
  ·simp only[J,ax]at e;exact aQ f args H r aA e
  ·have aL:f=cM.f:=by simpa using J
   simp only[J,ak]at e;split at e
   ·rename_i d ae;unfold aV.run at e;cases bu:cM.g d with
    |none=>simp[bu,DT.val]at e
    |some z=>
     simp only[bu,DT.val,bH,cV]at e;obtain ⟨rfl,rfl⟩:=e;rw[aL];exact ab cM (by simp) args H d z ae bu
   ·exact aQ f args H r aA e
theorem ark [Env] {P:cq} {F:bk} (tab:cQ P F.cx) (c1:ca P F.Γ) (hm:P.follows .mixedOrders=true) {cM:aV} {fn:Func} {c:Code} (aL:P.funcs[cM.f]? =some fn) (J:fn.body=some c) (cy:nn fn cM.S cM.Z=true) (dO: ∀q∈et c 0,hl P F fn.ntmps q.1 q.2) (cX:jJ P F fn.ntmps c)
  (fb:F.m=cM.S.objs.length) (bu: ∀d z,cM.g d=some z->(mM F fn cM.S cM.Z d).val=some z):cF P cM:=
 λargs H d z ae bI=>ar5 tab c1 hm aL J cy dO cX fb ae (bu d z bI)
def o2:(t:aB)->t.den->List az->Bool
 | .bool,x,cs=>match cs with |[.bool b]=>b==x |_=>false
 | .int k,x,cs=>match cs with |[.int j n]=>decide (j=k)&&decide (n=x)|_=>false
 | .str,x,cs=>match cs with |[.string d]=>decide (d.data.toList=x)|_=>false
 | .opq,_,_=>false
 | .unit,_,cs=>match cs with |[]=>true |_=>false
 | .list _,x,cs=>match x,cs with |[],[.slice _ 0 _]=>true |_,_=>false
 | .pair a b,x,cs=>o2 a x.1 (cs.take a.size)&&o2 b x.2 (cs.drop a.size)
theorem Fp {φ:bJ} {w:bh}: ∀(t:aB) (x:t.den) (cs:List az),o2 t x cs=true->bt φ w t x cs
 | .bool,x,cs,h=>by
  unfold o2 at h;split at h
  ·rename_i b;obtain rfl:b=x:=by simpa using h
   rfl
  ·cases h
 | .int k,x,cs,h=>by
  unfold o2 at h;split at h
  ·rename_i j n;simp only[bN,dJ]at h;obtain ⟨s,E⟩:=h;obtain rfl:n=x:=E;subst s;rfl
  ·cases h
 | .str,x,cs,h=>by
  unfold o2 at h;split at h
  ·rename_i d;obtain rfl:d.data.toList=x:=of_decide_eq_true h;show [Value.string d]=[Value.string ⟨⟨d.data.toList⟩⟩];congr 1
  ·cases h
 | .opq,_,_,h=>by cases h
 | .unit,_,cs,h=>by
  unfold o2 at h;split at h
  ·rfl
  ·cases h
 | .list t,x,cs,h=>by
  have key: ∀(x:List t.den),x=[]-> ∀A c,bt φ w (.list t) x [.slice A 0 c]:=λx ai A c=>by subst ai;exact ⟨A,0,c,rfl,rfl,Nat.zero_le _,.inl rfl⟩
  unfold o2 at h;split at h
  ·rename_i ai bo;exact key _ rfl _ _
  ·cases h
 | .pair a b,x,cs,h=>by simp only[o2,bN]at h;exact ⟨cs.take a.size,cs.drop a.size,(List.take_append_drop _ _).symm,Fp a _ _ h.1,Fp b _ _ h.2⟩
def K.cells0:K->Nat
 | .agg l=>go l
 | .dat t _=>t.size
 |_=>1
where
 go:List K->Nat
  |[]=>0
  |r::l=>r.cells0+go l
def acC:K->Bool
 | .agg _=>true | .dat t _=>t.isAgg |_=>false
mutual
def iL:K->az->Bool
 | .dat t x,v=>o2 t x v.cells.toList&&(j8 v==t.isAgg)
 | .nils _ _,v=>match v with | .slice none 0 0=>true |_=>false
 | .nilI,v=>match v with | .nilIface=>true |_=>false
 | .nilF,v=>match v with | .nilFunc=>true |_=>false
 | .agg l,v=>match v with | .agg cs=>w8 l cs.toList |_=>false
 |_,_=>false
def w8:List K->List az->Bool
 |[],cs=>match cs with |[]=>true |_=>false
 |r::l,cs=>(bif acC r then iL r (.agg (cs.take r.cells0).toArray)&&w8 l (cs.drop r.cells0) else match cs with |v::cs=>iL r v&& !j8 v&&w8 l cs |[]=>false)
end
mutual
theorem J6 {φ:bJ} {ι:Nat->az} {w:bh}: ∀(r:K) (v:az),iL r v=true->r.rel φ ι w v/\r.ids=[]
 | .dat t x,v,h=>by simp only[iL,bN,beq_iff_eq]at h;exact ⟨h3 ⟨Fp t x _ h.1,h.2⟩,rfl⟩
 | .nils e t,v,h=>by
  unfold iL at h;split at h
  ·exact ⟨rfl,rfl⟩
  ·cases h
 | .agg l,v,h=>by
  unfold iL at h;split at h
  ·rename_i cs;obtain ⟨s,E⟩:=Mr l cs.toList h;exact ⟨Gz ⟨cs,rfl,s⟩,E⟩
  ·cases h
 | .undef,_,h=>by simp[iL]at h
 | .clip ..,_,h=>by simp[iL]at h
 | .nilv,_,h=>by simp[iL]at h
 | .own ..,_,h=>by simp[iL]at h
 | .view ..,_,h=>by simp[iL]at h
 | .ptr ..,_,h=>by simp[iL]at h
 | .fptr ..,_,h=>by simp[iL]at h
 | .tup ..,_,h=>by simp[iL]at h
 | .fn ..,_,h=>by simp[iL]at h
 | .iface ..,_,h=>by simp[iL]at h
 | .nilI,v,h=>by
  unfold iL at h;split at h
  ·exact ⟨rfl,rfl⟩
  ·cases h
 | .nilF,v,h=>by
  unfold iL at h;split at h
  ·exact ⟨rfl,rfl⟩
  ·cases h
 | .nilP,_,h=>by simp[iL]at h
 | .atl _,_,h=>by simp[iL]at h
 | .lim ..,_,h=>by simp[iL]at h
 | .yld ..,_,h=>by simp[iL]at h
 | .gp ..,_,h=>by simp[iL]at h
 | .dfr ..,_,h=>by simp[iL]at h
theorem Mr {φ:bJ} {ι:Nat->az} {w:bh}: ∀(l:List K) (cs:List az),w8 l cs=true->K.relL φ ι w l cs/\K.idsL l=[]
 |[],cs,h=>by
  unfold w8 at h;split at h
  ·exact ⟨rfl,rfl⟩
  ·cases h
 |r::l,cs,h=>by
  unfold w8 at h;cases aS:acC r
  ·simp only[aS,ax]at h;split at h
   ·rename_i v ac1;simp only[bN,eJ]at h;obtain ⟨s,E⟩:=J6 (φ:=φ) (ι:=ι) (w:=w) r v h.1.1;obtain ⟨O,aC⟩:=Mr (φ:=φ) (ι:=ι) (w:=w) l ac1 h.2;exact ⟨⟨v,ac1,by rw[rE h.1.2];rfl,s,O⟩,by simp[K.idsL,E,aC]⟩
   ·cases h
  ·simp only[aS,ak,bN]at h;obtain ⟨s,E⟩:=J6 (φ:=φ) (ι:=ι) (w:=w) r _ h.1;obtain ⟨O,aC⟩:=Mr (φ:=φ) (ι:=ι) (w:=w) l _ h.2;exact ⟨⟨_,_,(List.take_append_drop _ _).symm,s,O⟩,by simp[K.idsL,E,aC]⟩
end
def GJ (P:cq) (cx:cd) (T:bm) (i:gj):Bool:=match P.info? T with
 |some info=>Nat.beq info.size i.ty.size&&(match cx.zeroRV 20 T with
  |some r=>(match info.zero with
   |some z=>Nat.beq z.cells.size i.ty.size&&(j8 z==i.ty.isAgg)&&r.fits i.ty&&iL r z
   |none=>false)
  |none=>true)
 |none=>false
def F6 (cx:cd) (ty:aB) (f:Nat) (U:bm) (off:Nat):Bool:=Nat.beq off (ty.offs f)&&(match cx.ti U with
 |some j=>decide (ty.nth f=some j.ty)&&Nat.blt 0 j.ty.size
 |none=>false)
def Az (cx:cd) (ty:aB) (ct:Array Field):Nat->List bm->Bool
 |_,[]=>true
 |f,U::l=>(match ct[f]? with
  |some fd=>Nat.beq fd.type U&&F6 cx ty f U fd.offset
  |none=>false)&&Az cx ty ct (f+1) l
def AV (cx:cd) (ty:aB) (e:bm) (size:Nat):Nat->List bm->Bool
 |_,[]=>true
 |f,U::l=>Nat.beq U e&&F6 cx ty f U (f*size)&&AV cx ty e size (f+1) l
def OX (P:cq) (e:bm) (t:aB) (bytes:Nat):Bool:=match P.info? e with
 |some dB=>Nat.beq dB.size t.size&&Nat.beq dB.bytes bytes&&Nat.blt 0 bytes&&Nat.blt 0 t.size&&(match dB.zero with
  |some z=>Nat.beq z.cells.toList.length t.size&&o2 t t.zero z.cells.toList
  |none=>false)
 |none=>false
def Gp (P:cq) (cx:cd) (T:bm) (i:gj):Bool:=match i.ty with
 | .bool=>match P.underlying T with |some .bool=>true |_=>false
 | .int k=>match P.underlying T with |some (.int j)=>decide (j=k)|_=>false
 | .str=>match P.underlying T with |some .string=>true |_=>false
 | .list t=>(match P.underlying T with |some (.slice e)=>Nat.beq e i.elem |_=>false)&&OX P i.elem t i.bytes&&(match cx.ti i.elem with
  |some ad=>decide (ad.ty=t)
  |none=>false)
 | .opq=>match P.underlying T with
  |some (.array _ _)=>false
  |some (.struct _)=>false
  |some _=>true
  |none=>false
 |ty=>bif i.arr then (match P.underlying T with
   |some (.array n e)=>Nat.beq i.fields.length n&&(match P.info? e with
    |some dB=>AV cx ty e dB.size 0 i.fields
    |none=>false)
   |_=>false)
  else (match P.underlying T with
   |some (.struct ct)=>Nat.beq ct.size i.fields.length&&Az cx ty ct 0 i.fields
   |_=>false)
section
variable {P:cq} {cx:cd} {T:bm} {i:gj}
theorem ZQ (h:GJ P cx T i=true): ∃info,P.info? T=some info/\info.size=i.ty.size/\ ∀r,cx.zeroRV 20 T=some r-> ∃z,info.zero=some z/\z.cells.size=i.ty.size/\j8 z=i.ty.isAgg/\r.fits i.ty=true/\r.ids=[]/\ ∀φ ι w,r.rel φ ι w z:=by
 unfold GJ at h;split at h
 ·rename_i info Cr;simp only[bN,Nat.beq_eq]at h;refine ⟨info,Cr,h.1,λr au=> ?_⟩;have E:=h.2;rw[au]at E;simp only at E;split at E
  ·rename_i z bI;simp only[bN,Nat.beq_eq,beq_iff_eq]at E;exact ⟨z,bI,E.1.1.1,E.1.1.2,E.1.2,(J6 (φ:=λ_ _=>False) (ι:=λ_=>undef) (w:=default) r z E.2).2,fun φ ι w=>(J6 r z E.2).1⟩
  ·cases E
 ·cases h
theorem W9 {ty:aB} {f:Nat} {U:bm} {off:Nat} (h:F6 cx ty f U off=true):nQ P cx ty f U off:=by
 unfold F6 at h;simp only[bN,Nat.beq_eq]at h;obtain ⟨s,E⟩:=h;split at E
 ·rename_i j an;simp only[bN,dJ]at E;exact ⟨s,j,an,E.1,by simpa using E.2⟩
 ·cases E
theorem Xa {ty:aB} {ct:Array Field}: ∀(l:List bm) (k:Nat),Az cx ty ct k l=true-> ∀(f:Nat) U,l[f]? =some U-> ∃fd,ct[k+f]? =some fd/\fd.type=U/\nQ P cx ty (k+f) U fd.offset
 |[],k,h,f,U,jf=>by simp at jf
 |KM::l,k,h,f,U,jf=>by
  simp only[Az,bN]at h;cases f with
  |zero=>
   obtain rfl:KM=U:=by simpa using jf
   have s:=h.1;split at s
   ·rename_i fd mU;simp only[bN,Nat.beq_eq]at s;exact ⟨fd,mU,s.1,W9 s.2⟩
   ·cases s
  |succ f=>
   have:=Xa l (k+1) h.2 f U (by simpa using jf)
   rwa [show k+1+f=k+(f+1) by omega]at this
theorem YQ {ty:aB} {e:bm} {size:Nat}: ∀(l:List bm) (k:Nat),AV cx ty e size k l=true-> ∀(f:Nat) U,l[f]? =some U->U=e/\nQ P cx ty (k+f) U ((k+f)*size)
 |[],k,h,f,U,jf=>by simp at jf
 |KM::l,k,h,f,U,jf=>by
  simp only[AV,bN,Nat.beq_eq]at h;cases f with
  |zero=>
   obtain rfl:KM=U:=by simpa using jf
   exact ⟨h.1.1,W9 h.1.2⟩
  |succ f=>
   have:=YQ l (k+1) h.2 f U (by simpa using jf)
   rwa [show k+1+f=k+(f+1) by omega]at this
theorem aoR {e:bm} {t:aB} {bytes:Nat} (h:OX P e t bytes=true):sF P e t bytes:=by
 unfold OX at h;split at h
 ·rename_i dB pf;simp only[bN,Nat.beq_eq]at h;obtain ⟨⟨⟨⟨s,E⟩,O⟩,aC⟩,ba⟩:=h;split at ba
  ·rename_i z bI;simp only[bN,Nat.beq_eq]at ba;exact ⟨dB,z,pf,s,E,by simpa using O,bI,by simpa using aC,ba.1,fun φ w=>Fp _ _ _ ba.2⟩
  ·cases ba
 ·cases h
theorem YP (h:Gp P cx T i=true):k6 P cx T i:=by
 have agg: ∀ty:aB,(bif i.arr then (match P.underlying T with
   |some (.array n e)=>Nat.beq i.fields.length n&&(match P.info? e with
    |some dB=>AV cx ty e dB.size 0 i.fields
    |none=>false)
   |_=>false)
  else (match P.underlying T with
   |some (.struct ct)=>Nat.beq ct.size i.fields.length&&Az cx ty ct 0 i.fields
   |_=>false))=true->(i.arr=false/\ ∃ct,P.underlying T=some (.struct ct)/\ct.size=i.fields.length/\ ∀(f:Nat) U,i.fields[f]? =some U-> ∃fd,ct[f]? =some fd/\fd.type=U/\nQ P cx ty f U fd.offset)\/
   (i.arr=true/\ ∃n e dB,P.underlying T=some (.array n e)/\i.fields.length=n/\P.info? e=some dB/\ ∀(f:Nat) U,i.fields[f]? =some U->U=e/\nQ P cx ty f U (f*dB.size)):=by
  intro ty h;cases aS:i.arr
  ·simp only[aS,ax]at h;split at h
   ·rename_i ct j4;simp only[bN,Nat.beq_eq]at h;refine .inl ⟨rfl,ct,j4,h.1,λf U jf=> ?_⟩;have:=Xa (P:=P) i.fields 0 h.2 f U jf;simpa using this
   ·cases h
  ·simp only[aS,ak]at h;split at h
   ·rename_i n e cC;simp only[bN,Nat.beq_eq]at h;obtain ⟨s,E⟩:=h;split at E
    ·rename_i dB pf;refine .inr ⟨rfl,n,e,dB,cC,s,pf,λf U jf=> ?_⟩;have:=YQ (P:=P) i.fields 0 E f U jf;simpa using this
    ·cases E
   ·cases h
 unfold Gp at h;unfold k6;cases aT:i.ty with
 |bool=>
  simp only[aT]at h ⊢;split at h
  ·assumption
  ·cases h
 |int k=>
  simp only[aT]at h ⊢;split at h
  ·rename_i j an;have:j=k:=of_decide_eq_true h;rw[an,this]
  ·cases h
 |str=>
  simp only[aT]at h ⊢;split at h
  ·assumption
  ·cases h
 |list t=>
  simp only[aT,bN]at h ⊢;obtain ⟨⟨s,E⟩,O⟩:=h;refine ⟨?_,aoR E,?_⟩
  ·split at s
   ·rename_i e he;rw[he,Nat.eq_of_beq_eq_true s]
   ·cases s
  ·split at O
   ·rename_i ad hu;exact ⟨ad,hu,of_decide_eq_true O⟩
   ·cases O
 |opq=>
  simp only[aT]at h ⊢;split at h
  ·cases h
  ·cases h
  ·rename_i I s E al;exact ⟨I,al,λx e ct=>⟨λh=>s x e (by rw[h]),λh=>E ct (by rw[h])⟩⟩
  ·cases h
 |unit=>
  simp only[aT]at h ⊢;exact agg .unit h
 |pair x y=>
  simp only[aT]at h ⊢;exact agg (.pair x y) h
end
def Gs (P:cq) (T:bm) (i:gj):Bool:= !i.nil||(match P.underlying T with |some (.interface _)=>true |_=>false)
def Pl (P:cq) (T:bm) (nm:String) (f:Nat):Bool:=match P.info? T with
 |some info=>match info.methods.find? (·.name==nm) with
  |some m=>m.path.isEmpty&&(match m.func with
   |some (g,vS)=>Nat.beq g f&&(match P.underlying T with
    |some (.pointer _)=>vS
    |some _=> !vS
    |none=>false)
   |none=>false)
  |none=>false
 |none=>false
def Gt (P:cq) (T:bm) (i:gj):Bool:=i.meths.all λp=>Pl P T p.1 p.2
theorem YR {P:cq} {T:bm} {i:gj} (h:Gs P T i=true):i.nil=true-> ∃ms,P.underlying T=some (.interface ms):=by
 intro aR;simp only[Gs,aR,cP,Bool.false_or]at h;split at h
 ·rename_i ms aur;exact ⟨ms,aur⟩
 ·cases h
theorem ao5 {P:cq} {T:bm} {nm:String} {f:Nat} (h:Pl P T nm f=true):Se P T nm f:=by
 intro v w;unfold Pl at h;split at h
 ·rename_i info u;split at h
  ·rename_i m hm;simp only[bN]at h;obtain ⟨s,E⟩:=h;split at E
   ·rename_i g vS bu;simp only[bN,Nat.beq_eq]at E;obtain ⟨rfl,O⟩:=E;have aP:m.path= #[]:=by simpa using s
    obtain ⟨k,af⟩: ∃k,P.types.size+Made.depth=k+1:=⟨P.types.size+Made.depth-1,by
                                                   have:0<Made.depth:=by decide
                                                   omega⟩
    rw[af];unfold method;simp only[typeInfo,Sem.run_bind,Sem.run_pure,Result.andThen_ok];split at O
    ·rename_i e hu;subst O;simp[typeInfo,u,hm,aP,follow,bu,receiverAt,run_underlying hu,Place.get]
    ·rename_i I al hu;have:vS=false:=by simpa using O
     subst this;cases I<;>first |(exact absurd rfl (al _))|(simp[typeInfo,u,hm,aP,follow,bu,receiverAt,run_underlying hu,Place.get])
    ·cases O
   ·cases E
  ·cases h
 ·cases h
theorem YW {P:cq} {T:bm} {i:gj} (h:Gt P T i=true): ∀nm f,vK i.meths nm=some f->Se P T nm f:=by
 unfold Gt at h;intro nm f;generalize i.meths=l at h
 induction l with
 |nil=>intro E;simp[vK]at E
 |cons p l aQ=>
  obtain ⟨n,g⟩:=p;simp only[List.all_cons,bN]at h;intro E;simp only[vK]at E;cases J:n==nm
  ·rw[J]at E;exact aQ h.2 E
  ·rw[J,ak]at E;obtain rfl:=eW E;have:n=nm:=by simpa using J
   subst this;exact ao5 h.1
def OG (P:cq) (cx:cd):Bool:=cx.tab.all λp=>GJ P cx p.1 p.2&&Gp P cx p.1 p.2&& !p.2.cmp&&Gs P p.1 p.2&&Gt P p.1 p.2
theorem asv {P:cq} {cx:cd} (h:OG P cx=true):cQ P cx:=by
 have dO: ∀(l:List (Nat×gj)) T i,cd.ti.go T l=some i->(T,i)∈l:=by
  intro l T i
  induction l with
  |nil=>intro h;simp[cd.ti.go]at h
  |cons p l aQ=>
   obtain ⟨U,j⟩:=p;intro h;simp only[cd.ti.go]at h;cases J:Nat.beq T U
   ·simp only[J,ax]at h;exact gO _ (aQ h)
   ·simp only[J,ak,bH]at h;have:T=U:=by simpa using J
    subst this h;simp
 intro T i u;have hm:=dO cx.tab T i u;unfold OG at h;rw[fy]at h;have s:=h _ hm;simp only[bN,eJ]at s;exact ⟨ZQ s.1.1.1.1,YP s.1.1.1.2,λaw=>(by rw[s.1.1.2]at aw;cases aw),YR s.1.2,YW s.2⟩
open Go.RowKit
def Told (w:bh):bJ:=λb k=> ∃v,w.cell? ⟨b,k,none⟩=some v
def aB.comps:aB->Nat
 | .pair _ b=>b.comps+1 |_=>0
def aB.good (B:aB->Nat):(t:aB)->t.den->Prop
 | .bool,_=>True
 | .int k,x=>(Lit.int k x).wf=true
 | .str,x=>x.length<=reachBytes
 | .opq,_=>False
 | .unit,_=>True
 | .list t,xs=>xs.length*B t<=reachBytes/\ ∀x∈xs,t.good B x
 | .pair a b,x=>a.good B x.1/\b.good B x.2
def aB.small (aY:Nat):(t:aB)->t.den->Prop
 | .str,x=>x.length<=aY
 | .list t,xs=>xs.length<=aY/\ ∀x∈xs,t.small aY x
 | .pair a b,x=>a.small aY x.1/\b.small aY x.2
 |_,_=>True
structure KR (H:Type) where
 U:DataW H->Nat
 A:List (DataW H)->Nat
 str: ∀d,d.length<=U (.lit (.string d))
 slice: ∀es sp,A es<=U (.slice es sp)
 agg: ∀ps,A ps<=U (.agg ps)
 mem: ∀I l,I∈l->U I<=A l
 len: ∀l,l.length<=A l
def xf (cx:cd) (B:aB->Nat):Nat->bm->Bool
 |0,_=>false
 |n+1,T=>match cx.ti T with
  |some i=>(match i.ty with
   | .bool=>true
   | .int _=>true
   | .str=>true
   | .opq=>false
   | .list t=>Nat.beq i.bytes (B t)&&xf cx B n i.elem
   |ty=>ty.chain&&Nat.beq ty.comps i.fields.length&&i.fields.all (xf cx B n))
  |none=>false
theorem aB.nth_comps: ∀(t:aB) (f:Nat) (ad:aB),t.nth f=some ad->f<t.comps
 | .pair a b,0,ad,h=>by simp[aB.comps]
 | .pair a b,f+1,ad,h=>by have:=aB.nth_comps b f ad h;simp[aB.comps];exact this
 | .bool,f,ad,h=>by cases f<;>simp[aB.nth]at h
 | .int _,f,ad,h=>by cases f<;>simp[aB.nth]at h
 | .str,f,ad,h=>by cases f<;>simp[aB.nth]at h
 | .opq,f,ad,h=>by cases f<;>simp[aB.nth]at h
 | .unit,f,ad,h=>by cases f<;>simp[aB.nth]at h
 | .list _,f,ad,h=>by cases f<;>simp[aB.nth]at h
section
variable {H:Type} {enc:bm×az->H} {P:cq} {cx:cd} {w:bh} {base:Nat} {spare:Nat->Bool} {held:Bool} {B:aB->Nat}
theorem NB {dI:Prop} {aY:Nat}: ∀(t:aB) (cs:List az),t.chain=true->cs.length=t.size->(∀f ad,t.nth f=some ad-> ∃y:ad.den,bt (Told w) w ad y ((cs.drop (t.offs f)).take ad.size)/\ad.good B y/\(dI->ad.small aY y))-> ∃y:t.den,bt (Told w) w t y cs/\t.good B y/\(dI->t.small aY y)
 | .unit,cs,_,ab,_=>⟨(),kU (by simpa [aB.size] using ab),trivial,λ_=>trivial⟩
 | .pair a b,cs,aw,ab,h=>by
  obtain ⟨x,ai,gx,fM⟩:=h 0 a rfl;have q6:cs.length=a.size+b.size:=ab;obtain ⟨y,bo,qZ,rB⟩:=NB b (cs.drop a.size) aw (by rw[List.length_drop];omega) λf ad hu=>by
   have:=h (f+1) ad hu;simp only[aB.offs]at this
   rwa [<-List.drop_drop]at this
  simp only[aB.offs,List.drop_zero]at ai;exact ⟨(x,y),⟨_,_,(List.take_append_drop a.size cs).symm,ai,bo⟩,⟨gx,qZ⟩,λm=>⟨fM m,rB m⟩⟩
 | .bool,_,h,_,_=>by cases h
 | .int _,_,h,_,_=>by cases h
 | .str,_,h,_,_=>by cases h
 | .opq,_,h,_,_=>by cases h
 | .list _,_,h,_,_=>by cases h
theorem Dh: ∀(nb:List bm) (e6:List (DataW H)) (j:Nat) (t:bm) (I:DataW H),(DataW.weightsEach P nb e6).all (· <=reachBytes)=true->nb[j]? =some t->e6[j]? =some I->(I.weights P t).all (· <=reachBytes)=true
 |[],_,j,t,I,_,aT,_=>by simp at aT
 |_::_,[],j,t,I,_,_,al=>by simp at al
 |ad::nb,e::e6,j,t,I,h,aT,al=>by
  simp only[DataW.weightsEach,List.all_append,bN]at h;cases j with
  |zero=>
   obtain rfl:ad=t:=by simpa using aT
   obtain rfl:e=I:=by simpa using al
   exact h.1
  |succ j=>exact Dh nb e6 j t I h.2 (by simpa using aT) (by simpa using al)
theorem Lt {t:bm}: ∀(e6:List (DataW H)) (j:Nat) (I:DataW H),(DataW.weightsAll P t e6).all (· <=reachBytes)=true->e6[j]? =some I->(I.weights P t).all (· <=reachBytes)=true
 |[],j,I,_,al=>by simp at al
 |e::e6,j,I,h,al=>by
  simp only[DataW.weightsAll,List.all_append,bN]at h;cases j with
  |zero=>
   obtain rfl:e=I:=by simpa using al
   exact h.1
  |succ j=>exact Lt e6 j I h.2 (by simpa using al)
theorem arT {a:Addr} {n:Nat} {c:List az} (h:w.cells? base a n=some c):c.length=n/\ ∀(k:Nat) (v:az),c[k]? =some v->w.cell? (a.add k)=some v:=by
 unfold World.cells? at h;split at h
 ·have key: ∀(l:List Nat) (c:List az),l.mapM (λi=>w.cell? (a.add i))=some c->c.length=l.length/\ ∀(k:Nat) (v:az) (i:Nat),c[k]? =some v->l[k]? =some i->w.cell? (a.add i)=some v:=by
   intro l
   induction l with
   |nil=>intro c h;simp at h;subst h;simp
   |cons i l aQ=>
    intro c h;rw[List.mapM_cons]at h;simp only[Option.bind_eq_bind,Option.bind_eq_some_iff]at h;obtain ⟨v,aZ,eu,aw,E⟩:=h;obtain rfl:v::eu=c:=by simpa using E
    obtain ⟨O,aC⟩:=aQ eu aw;refine ⟨by simp[O],λk ad j af an=> ?_⟩;cases k with
    |zero=>
     obtain rfl:v=ad:=by simpa using af
     obtain rfl:i=j:=by simpa using an
     exact aZ
    |succ k=>exact aC k ad j (by simpa using af) (by simpa using an)
  obtain ⟨s,E⟩:=key _ _ h;have ab:c.length=n:=by simpa using s
  refine ⟨ab,λk v af=>E k v k af ?_⟩;have:k<n:=by rw[<-ab];exact (iC.1 af).1
  simp[this]
 ·cases h
theorem Fo (tab:cQ P cx) {T:bm} {i:gj} (h:cx.ti T=some i):P.cellsOf T=i.ty.size:=by obtain ⟨info,s,E,_⟩:=(tab T i h).info;simp[Program.cellsOf,s,E]
theorem FP (tab:cQ P cx) (k4:KR H) {aY:Nat}: ∀(n:Nat) (T:bm) (i:gj) (fuel:Nat) (cs:List az) (x:DataW H×List MemPlace),xf cx B n T=true->cx.ti T=some i->DataW.trod enc P w base spare held fuel T cs=some x->(x.1.weights P T).all (· <=reachBytes)=true->
  ∃y:i.ty.den,bt (Told w) w i.ty y cs/\i.ty.good B y/\(k4.U x.1<=aY->i.ty.small aY y)
 |0,T,i,fuel,cs,x,au,_,_,_=>by cases au
 |n+1,T,i,fuel,cs,x,au,u,h,hw=>by
  have agg: ∀ty:aB,ty=i.ty->(ty=.unit\/ ∃a b,ty=.pair a b)->(ty.chain&&Nat.beq ty.comps i.fields.length&&i.fields.all (xf cx B n))=true->
    ((i.arr=false/\ ∃ct,P.underlying T=some (.struct ct)/\ct.size=i.fields.length/\ ∀(f:Nat) U,i.fields[f]? =some U-> ∃fd,ct[f]? =some fd/\fd.type=U/\nQ P cx ty f U fd.offset)\/
   (i.arr=true/\ ∃n e dB,P.underlying T=some (.array n e)/\i.fields.length=n/\P.info? e=some dB/\ ∀(f:Nat) U,i.fields[f]? =some U->U=e/\nQ P cx ty f U (f*dB.size)))-> ∃y:ty.den,bt (Told w) w ty y cs/\ty.good B y/\(k4.U x.1<=aY->ty.small aY y):=by
   intro ty ew _ aw al;simp only[bN,Nat.beq_eq,fy]at aw;obtain ⟨⟨oq,lK⟩,Cc⟩:=aw;have dT:P.cellsOf T=ty.size:=by rw[Fo tab u,ew]
   rcases al with ⟨-,ct,hu,j4,aL⟩|⟨-,m,e,dB,hu,hm,pf,aL⟩
   ·obtain ⟨xs,k,rfl,rfl,ab,vr,ai⟩:=DataW.trod_struct hu h;refine NB ty cs oq (ab.trans dT) λf ad Co=> ?_
    have bd:=aB.nth_comps ty f ad Co;have jf:i.fields[f]? =some i.fields[f]:=hg (by omega);obtain ⟨fd,mU,adV,x5,j,an,aR,q8⟩:=aL f _ jf;rw[Co]at aR;have Rv:ad=j.ty:=by simpa using aR
    subst Rv;have s:=ai f fd mU;have mf:f<xs.length:=by omega
    rw[hg mf,adV,Fo tab an,x5]at s;obtain ⟨y,bo,qZ,rB⟩:=FP tab k4 n _ j k _ _ (Cc _ (dz _)) an s (by
     simp only[DataW.weights,hu]at hw;refine Dh _ _ f i.fields[f] _ hw ?_ ?_
     ·simp[mU,adV]
     ·simp[hg mf])
    exact ⟨y,bo,qZ,λm=>rB (Nat.le_trans (Nat.le_trans (k4.mem _ _ (List.mem_map.2 ⟨_,dz mf,rfl⟩)) (k4.agg _)) m)⟩
   ·obtain ⟨xs,k,rfl,rfl,ab,vr,ai⟩:=DataW.trod_array hu h;refine NB ty cs oq (ab.trans dT) λf ad Co=> ?_
    have bd:=aB.nth_comps ty f ad Co;have jf:i.fields[f]? =some i.fields[f]:=hg (by omega);obtain ⟨Qw,x5,j,an,aR,q8⟩:=aL f _ jf;rw[Co]at aR;have Rv:ad=j.ty:=by simpa using aR
    subst Rv;have s:=ai f (by omega);have mf:f<xs.length:=by omega
    have QH:P.cellsOf e=j.ty.size:=by rw[<-Qw];exact Fo tab an
    have atP:dB.size=P.cellsOf e:=by simp[Program.cellsOf,pf]
    rw[hg mf]at s;rw[atP]at x5;rw[x5,QH]at s;obtain ⟨y,bo,qZ,rB⟩:=FP tab k4 n e j k _ _ (by rw[<-Qw];exact Cc _ (dz _)) (by rw[<-Qw];exact an) s (by simp only[DataW.weights,hu]at hw;exact Lt _ f _ hw (by simp[hg mf]))
    exact ⟨y,bo,qZ,λm=>rB (Nat.le_trans (Nat.le_trans (k4.mem _ _ (List.mem_map.2 ⟨_,dz mf,rfl⟩)) (k4.agg _)) m)⟩
  have al:=(tab T i u).desc;simp only[xf,u]at au;unfold k6 at al;cases aT:i.ty with
  |bool=>
   simp only[aT]at al;obtain ⟨b,rfl,-⟩:=DataW.trod_bool al h;exact ⟨b,rfl,trivial,λ_=>trivial⟩
  |int k=>
   simp only[aT]at al;obtain ⟨b,rfl,-,au6⟩:=DataW.trod_int al h;exact ⟨b,rfl,au6,λ_=>trivial⟩
  |str=>
   simp only[aT]at al;obtain ⟨d,rfl,rfl,ae⟩:=DataW.trod_string al h;refine ⟨d.data.toList,rfl,?_,λm=>Nat.le_trans (k4.str _) m⟩;have hw:(DataW.weights P T (.lit (.string d.data.toList):DataW H)).all (· <=reachBytes)=true:=hw;simp only[DataW.weights,List.all_cons,List.all_nil,Bool.and_true,dJ]at hw;exact hw
  |opq=>simp only[aT]at au;cases au
  |unit=>
   simp only[aT]at al au;exact agg .unit aT.symm (.inl rfl) au al
  |pair a b=>
   simp only[aT]at al au;exact agg (.pair a b) aT.symm (.inr ⟨a,b,rfl⟩) au al
  |list t=>
   simp only[aT]at al au;obtain ⟨hu,⟨dB,z,L,aa,a1,bq,cU,dp,h1,lG⟩,ad,CJ,rfl⟩:=al;simp only[bN,Nat.beq_eq]at au;have QH:P.cellsOf i.elem=ad.ty.size:=Fo tab CJ;rcases DataW.trod_slice hu h with ⟨rfl,rfl⟩|⟨a,len,cap,oc,rest,k,rfl,rfl,rfl,J,ab,hm,hlen,gw,-⟩
   ·exact ⟨[],⟨none,0,0,rfl,rfl,b7 _,.inl rfl⟩,⟨by simp[reachBytes],by simp⟩,λ_=>⟨Nat.zero_le _,by simp⟩⟩
   ·simp only[DataW.weights,hu,List.all_cons,List.all_append,bN,dJ,List.length_map]at hw;obtain ⟨gT,au5,aez⟩:=hw;have Ca:P.bytesOf i.elem=B ad.ty:=by simp[Program.bytesOf,L,a1,au.1]
    rw[QH]at gw;have build: ∀m,m<=len-> ∃(aW:List ad.ty.den) (c:List az),aW.length=m/\c.length=m*ad.ty.size/\cY (bt (Told w) w ad.ty) aW c/\(∀j v,c[j]? =some v->w.cell? (a.add j)=some v)/\ ∀y∈aW,ad.ty.good B y/\(k4.A (oc.map (·.1))<=aY->ad.ty.small aY y):=by
     intro m
     induction m with
     |zero=>intro _;exact ⟨[],[],rfl,by simp,rfl,by simp,by simp⟩
     |succ m aQ=>
      intro Cy;obtain ⟨aW,c,s,E,O,aC,ba⟩:=aQ (by omega);have ai:=gw m (by omega);have mf:m<oc.length:=by omega
      rw[hg mf]at ai;obtain ⟨a7,oq,ai⟩:=Option.bind_eq_some_iff.1 ai;obtain ⟨y,bo,qZ,rB⟩:=FP tab k4 n i.elem ad k a7 _ au.2 CJ ai (Lt _ m _ au5 (by simp[hg mf]));obtain ⟨g1,g2⟩:=arT oq;refine ⟨aW++[y],c++a7,by simp[s],by simp[E,g1,Nat.add_mul],cY.append aW [y] c a7 O ⟨a7,[],by simp,bo,rfl⟩,λj v an=> ?_,λz bI=> ?_⟩
      ·rcases Nat.lt_or_ge j c.length with h |h
       ·rw[List.getElem?_append_left h]at an;exact aC j v an
       ·rw[List.getElem?_append_right h]at an;have:=g2 _ v an;have Hy:(a.add (m*ad.ty.size)).add (j-c.length)=a.add j:=by rw[Addr.add_add];congr 1;omega
        rwa [Hy]at this
      ·rcases dk.1 bI with h |h
       ·exact ba z h
       ·simp at h;subst h;exact ⟨qZ,λhm=>rB (Nat.le_trans (k4.mem _ _ (List.mem_map.2 ⟨_,dz mf,rfl⟩)) hm)⟩
    obtain ⟨aW,c,s,E,O,aC,ba⟩:=build len (b7 _);refine ⟨aW,⟨some a,len,cap,rfl,s,ab,?_⟩,⟨?_,λy bo=>(ba y bo).1⟩,λhm=> ?_⟩
    ·rcases Nat.eq_zero_or_pos len with b8 |b8
     ·exact .inl b8
     ·right;have ha:0<c.length:=by rw[E];exact Nat.mul_pos b8 dp
      have fT:=aC 0 c[0] (hg ha);obtain ⟨U6,ZY,aa0⟩:=a;have vp:aa0=none:=by
       cases aa0 with
       |none=>rfl
       |some d=>
        exfalso;have ae:((⟨U6,ZY,some d⟩:Addr).add 0).spot=some d:=by unfold Addr.add;split<;>simp_all
        unfold World.cell? at fT;split at fT
        ·rw[ae]at fT;simp at fT
        ·cases fT
      subst vp;refine ⟨U6,ZY,c,rfl,λj v an=> ?_,O⟩;have:=aC j v an;rw[hv]at this;exact ⟨⟨v,this⟩,this⟩
    ·rw[s,<-Ca];exact Nat.le_trans (gW _ (by omega)) gT
    ·have eU:=Nat.le_trans (k4.slice _ _) hm;refine ⟨?_,λy bo=>(ba y bo).2 eU⟩;have:=Nat.le_trans (k4.len (oc.map (·.1))) eU;rw[List.length_map]at this;omega
end
open Go.RowKit
section
variable {H:Type} {enc:bm×az->H} {P:cq} {cx:cd} {cr:bh} {base:Nat} {spare:Nat->Bool} {held:Bool} {B:aB->Nat}
theorem apc (tab:cQ P cx) {T:bm} {i:gj} (u:cx.ti T=some i) (cC:i.ty≠ .opq) {r:Reach} {b:Nat} {v:az} (h:Value.okWide P cr r b T v):j8 v=i.ty.isAgg:=by
 have al:=(tab T i u).desc;unfold k6 at al;unfold Value.okWide at h;have cell: ∀I,P.underlying T=some I->(∀ct,I≠ .struct ct)->(∀n e,I≠ .array n e)->Cell.okWide P cr r b T v->(I=.bool\/(∃k,I=.int k)\/I=.string\/ ∃e,I=.slice e)->j8 v=false:=by intro I al _ _ aw ot;simp only[Cell.okWide,al]at aw;rcases ot with rfl |⟨k,rfl⟩|rfl |⟨e,rfl⟩<;>cases v<;>first |rfl |(simp_all [Cell.ok,j8])
 cases aT:i.ty with
 |bool=>
  simp only[aT]at al;simp only[al]at h;exact cell _ al (by simp) (by simp) h (.inl rfl)
 |int k=>
  simp only[aT]at al;simp only[al]at h;exact cell _ al (by simp) (by simp) h (.inr (.inl ⟨k,rfl⟩))
 |str=>
  simp only[aT]at al;simp only[al]at h;exact cell _ al (by simp) (by simp) h (.inr (.inr (.inl rfl)))
 |list t=>
  simp only[aT]at al;simp only[al.1]at h;exact cell _ al.1 (by simp) (by simp) h (.inr (.inr (.inr ⟨_,rfl⟩)))
 |opq=>exact absurd aT cC
 |unit=>
  simp only[aT]at al;rcases al with ⟨_,ct,al,_⟩|⟨_,n,e,dB,al,_⟩<;> · simp only[al]at h;obtain ⟨cs,rfl,-⟩:=h;rfl
 |pair x y=>
  simp only[aT]at al;rcases al with ⟨_,ct,al,_⟩|⟨_,n,e,dB,al,_⟩<;> · simp only[al]at h;obtain ⟨cs,rfl,-⟩:=h;rfl
theorem N7 (tab:cQ P cx) (k4:KR H) {dI aY:Nat} {T:bm} {i:gj} (au:xf cx B aY T=true) (u:cx.ti T=some i) (cC:i.ty≠ .opq) {r:Reach} {b:Nat} {v:az} (cy:Value.okWide P cr r b T v) {I:DataW H} {ps:List MemPlace} (h:DataW.Trod enc P cr base spare held T v I ps)
  (hw:(I.weights P T).all (· <=reachBytes)=true): ∃y:i.ty.den,cA (Told cr) cr i.ty y v/\i.ty.good B y/\(k4.U I<=dI->i.ty.small dI y):=by
 obtain ⟨fuel,aL⟩:=h;obtain ⟨y,bo,qZ,rB⟩:=FP tab k4 aY T i fuel _ _ au u aL hw;exact ⟨y,⟨bo,apc tab u cC cy⟩,qZ,rB⟩
mutual
def pV:DataW H->Nat
 | .lit (.string bytes)=>bytes.length+1
 | .lit _=>1
 | .nil=>1
 | .ptr I=>pV I+1
 | .slice oc spare=>uD oc+uD spare+1
 | .agg parts=>uD parts+1
 | .iface _ I=>pV I+1
 | .map _=>1
 | .held _=>1
def uD:List (DataW H)->Nat
 |[]=>0
 |I::r=>pV I+uD r
end
def OM (H:Type):KR H where
 U:=pV
 A:=uD
 str d:=by simp[pV]
 slice es sp:=by simp only[pV];omega
 agg ps:=by simp only[pV];omega
 mem I l h:=by
  induction l with
  |nil=>cases h
  |cons e l aQ=>
   simp only[uD];rcases eO.1 h with rfl |h
   ·omega
   ·have:=aQ h;omega
 len l:=by
  induction l with
  |nil=>simp
  |cons e l aQ=>
   have:1<=pV e:=by
    cases e with
    |lit l=>cases l<;>simp[pV]
    |_=>simp[pV]
   simp only[uD,gn];omega
theorem ari [Env] (Cp: ∀g,kv (Told cr) cr g 0 ((Env.glob g).map mQ)) {f:FuncId} {args:List K} {r:K} {aA:List aF} (g:kh P f args [] r aA) (fk:K.idsL args=[]) {aO:Array az} (eh:K.relT (Told cr) (λ_=>undef) cr args aO.toList):
  Calls P f aO cr λe ao=> ∃v av aH,e=.returned v/\r.rel av aH ao v/\Below cr.heap.size cr ao:=by
 have b8:cc (Told cr) (λ_=>undef) cr []:=by
  refine ⟨λo=> ?_,λo dQ b h=> ?_,λb k h=>h,λo i h=> ?_,Cp⟩
  ·rw[pv (Nat.zero_le _)];trivial
  ·rw[pv (Nat.zero_le _)]at h;cases h
  ·rw[pv (Nat.zero_le _)]at h;simp[aF.ids]at h
 refine Calls.mono (g.2 (Told cr) (λ_=>undef) cr aO b8 (λi h=>by simp at h) eh (λi h=>by rw[fk]at h;simp at h)) λe ao=> ?_
 rintro ⟨v,av,aH,he,-,d,-,au,-⟩;refine ⟨v,av,aH,he,au,⟨d.os,d.tape,d.output,d.size,λk af=>d.blocks k af ?_⟩⟩;rintro ⟨o,h,-⟩;rw[pv (Nat.zero_le _)]at h;cases h
theorem asz [Env] (Cp: ∀g,kv (Told cr) cr g 0 ((Env.glob g).map mQ)) {f:FuncId} {args:List K} {aA:List aF} (g:kh P f args [] (.dat .bool true) aA) (fk:K.idsL args=[]) {aO:Array az} (eh:K.relT (Told cr) (λ_=>undef) cr args aO.toList):
  Calls P f aO cr λe ao=>e=.returned (.bool true)/\Below cr.heap.size cr ao:=by
 refine Calls.mono (ari Cp g fk eh) λe ao=> ?_
 rintro ⟨v,av,aH,he,au,J⟩;have:v=.bool true:=cA.bool.1 au;exact ⟨by rw[he,this],J⟩
end
open Go.RowKit
def O6 [Env] (P:cq):List aV->Prop
 |[]=>True
 |cM::l=>qQ P cM/\O6 P l
theorem bT [Env] {P:cq}: ∀{l:List aV},O6 P l->ca P (hL l):=by
 intro l h;refine ZS l λcM iT=> ?_
 induction l with
 |nil=>cases iT
 |cons F l aQ=>
  rcases eO.1 iT with rfl |iT
  ·exact h.1
  ·exact aQ h.2 iT
def oP [Env] (P:cq) (F:bk) (nt:Nat):List (Nat×Code)->Prop
 |[]=>True
 |q::l=>hl P F nt q.1 q.2/\oP P F nt l
theorem uv [Env] {P:cq} {F:bk} {nt:Nat}: ∀{l m:List (Nat×Code)},l=m->oP P F nt m-> ∀q∈l,hl P F nt q.1 q.2:=by
 rintro l m rfl h q aD
 induction l with
 |nil=>cases aD
 |cons F l aQ=>
  rcases eO.1 aD with rfl |aD
  ·exact h.1
  ·exact aQ h.2 aD
theorem NJ {σ ρ:Type} {b:σ->Option (σ⊕ρ)} {d:σ} {r:ρ} (h:b4 b d=some r): ∃n,eI b n d=some r:=⟨_,h⟩
theorem aax {σ ρ:Type} {b:σ->Option (σ⊕ρ)}: ∀{n:Nat} {d:σ} {r:ρ} (k:Nat),eI b n d=some r->eI b (n+k) d=some r
 |0,d,r,k,h=>by cases h
 |n+1,d,r,k,h=>by
  rw[show n+1+k=(n+k)+1 by omega];simp only[eI]at h ⊢;cases J:b d with
  |none=>rw[J]at h;cases h
  |some q=>
   rw[J]at h;cases q with
   |inl t=>exact aax k h
   |inr r=>exact h
theorem m7 {σ ρ:Type} {b:σ->Option (σ⊕ρ)} {d:σ} {r:ρ} {n:Nat} (aR:n<=kZ) (h:eI b n d=some r):b4 b d=some r:=by obtain ⟨k,af⟩:=Nat.le.dest aR;unfold b4;rw[<-af];exact aax k h
theorem tP [Env] {P:cq} {F:bk} {nt:Nat} (tab:cQ P F.cx) (c1:ca P F.Γ) (hm:P.follows .mixedOrders=true) {ar:bL} {c:Code} {k:Nat} {b:ar.S.ty.den->Option (ar.S.ty.den⊕ar.Out)} {f:ar.S.ty.den->Option ar.Out} (QO: ∀d,f d=b4 b d) (nG:F.Λ k=ar.go f F.m)
  {m:List (Nat×Code)} (iU:et c k=m) (dO:oP P F nt m) (aw:i8 nt c=true) (cX:jJ P F nt c) (J: ∀d,(ar.body F c k d).val=b d):hl P F nt k c:=by
 refine aqX tab c1 hm nG (uv iU dO) aw cX λd o h=> ?_
 rw[QO]at h;obtain ⟨n,aR⟩:=NJ h;exact ⟨n,by rw[show (λd=>(ar.body F c k d).val)=b from funext J];exact aR⟩
theorem tO [Env] {P:cq} {F:bk} (tab:cQ P F.cx) (c1:ca P F.Γ) (hm:P.follows .mixedOrders=true) {cM:aV} {fn:Func} (aL:P.funcs[cM.f]? =some fn) (J:fn.body=some (bX fn)) (cy:nn fn cM.S cM.Z=true)
  {m:List (Nat×Code)} (iU:et (bX fn) 0=m) (dO:oP P F fn.ntmps m) (cX:jJ P F fn.ntmps (bX fn)) (fb:F.m=cM.S.objs.length) (bu: ∀d,(mM F fn cM.S cM.Z d).val=cM.g d):cF P cM:=
 ark tab c1 hm aL J cy (uv iU dO) cX fb λd z h=>(bu d).trans h
open Go.RowKit
def uZ (P:cq) (cx:cd):Nat->bm->Bool
 |0,_=>false
 |n+1,T=>match cx.ti T with
  |none=>false
  |some i=>(match i.ty with
   | .bool=>true
   | .int _=>true
   | .str=>true
   | .list _=>false
   | .opq=>false
   |ty=> !i.arr&&ty.chain&&Nat.beq ty.comps i.fields.length&& !P.stoodInHeld T&&(match P.underlying T with
    |some (.struct ct)=>ct.toList.all (λf=> !(f.name== "_")&&uZ P cx n f.type)
    |_=>false))
section
variable {P:cq} {cx:cd} {φ:bJ} {w:bh}
theorem acb (tab:cQ P cx) {U:bm} {j:gj} (an:cx.ti U=some j) {xs:Array az} {off:Nat} {x:j.ty.den} (h:bt φ w j.ty x ((xs.toList.drop off).take j.ty.size)) (q8:0<j.ty.size):
  ∃v,(part U xs off).run P w=.ok v w/\cA φ w j.ty x v:=by
 refine ⟨oZ j.ty ((xs.toList.drop off).take j.ty.size),?_,(cA.of h).1⟩;unfold part oZ;simp only[Sem.run_bind,NS tab an,Result.andThen_ok];by_cases aS:j.ty.isAgg=true
 ·rw[if_pos aS,if_pos aS];simp only[Sem.run_bind,Em tab an,Result.andThen_ok,Sem.run_pure];congr 2;apply Array.ext';rw[Array.toList_extract,List.extract_eq_take_drop];simp
 ·simp only[Bool.not_eq_true]at aS;have ab:=h.len;have s:((xs.toList.drop off).take j.ty.size)[0]? =some (((xs.toList.drop off).take j.ty.size).headD undef):=by
   cases aw:(xs.toList.drop off).take j.ty.size with
   |nil=>rw[aw]at ab;simp at ab;omega
   |cons a l=>rfl
  have E:xs[off]? =some (((xs.toList.drop off).take j.ty.size).headD undef):=by rw[<-s,List.getElem?_take,if_pos q8,List.getElem?_drop];simp
  simp only[aS,Bool.false_eq_true,if_false,E,Sem.run_pure]
theorem XF (tab:cQ P cx) {I:Nat} {xs aW:Array az} (aQ: ∀U j,cx.ti U=some j->uZ P cx I U=true-> ∀x y cE gU e,I<=e->cA φ w j.ty x cE->cA φ w j.ty y gU->(Op.equalIn e U cE gU).run P w=.ok (j.ty.eqb x y) w) {e:Nat} (he:I<=e):
  ∀(t:aB) (ct:List Field) (base:Nat) (x y:t.den),t.chain=true->ct.length=t.comps->(∀(f:Nat) fd,ct[f]? =some fd->(!(fd.name== "_")&&uZ P cx I fd.type)=true/\fd.offset=base+t.offs f/\ ∃j,cx.ti fd.type=some j/\t.nth f=some j.ty/\0<j.ty.size)->
   bt φ w t x ((xs.toList.drop base).take t.size)->bt φ w t y ((aW.toList.drop base).take t.size)->(Op.eqFields e xs aW ct).run P w=.ok (t.eqb x y) w
 | .unit,[],base,x,y,_,_,_,_,_=>by simp[Op.eqFields,aB.eqb]
 | .unit,_::_,base,x,y,_,ab,_,_,_=>by simp[aB.comps]at ab
 | .pair a b,[],base,x,y,_,ab,_,_,_=>by simp[aB.comps]at ab
 | .pair a b,f::ct,base,x,y,aw,ab,aL,ai,bo=>by
  obtain ⟨s,E,j,an,aR,q8⟩:=aL 0 f rfl;have aua:a=j.ty:=by simpa [aB.nth] using aR
  subst aua;simp only[bN,eJ,beq_eq_false_iff_ne]at s;have E:f.offset=base:=by simpa [aB.offs] using E
  have sp: ∀{z:(aB.pair j.ty b).den} {eC:Array az},bt φ w (.pair j.ty b) z ((eC.toList.drop base).take (aB.pair j.ty b).size)->bt φ w j.ty z.1 ((eC.toList.drop base).take j.ty.size)/\bt φ w b z.2 ((eC.toList.drop (base+j.ty.size)).take b.size):=by
   intro z eC bI;obtain ⟨a7,aX,L,bb,aU⟩:=bI;have dD:=bb.len;have dr:=aU.len;have dT:(aB.pair j.ty b).size=j.ty.size+b.size:=rfl;rw[dT,List.take_add]at L;have hlen:((eC.toList.drop base).take j.ty.size).length=a7.length:=by have:=congrArg List.length L;simp only[fr,eG,List.length_drop]at this ⊢;omega
   obtain ⟨aa,a1⟩:=List.append_inj L hlen;rw[aa,<-List.drop_drop,a1];exact ⟨bb,aU⟩
  obtain ⟨nS,oO⟩:=sp ai;obtain ⟨iO,kS⟩:=sp bo;obtain ⟨my,av8,agu⟩:=acb tab an nS q8;obtain ⟨axK,av9,agv⟩:=acb tab an iO q8;have mT:=aQ f.type j an s.2 x.1 y.1 my axK e he agu agv;have rest:=XF tab aQ he b ct (base+j.ty.size) x.2 y.2 aw (by simpa [aB.comps] using ab) (λk fd af=>by obtain ⟨g1,g2,eF,g3,g4,g5⟩:=aL (k+1) fd (by simpa using af);refine ⟨g1,?_,eF,g3,by simpa [aB.nth] using g4,g5⟩;rw[g2];simp only[aB.offs];omega) oO kS
  rw[Op.eqFields,if_pos s.1,E];simp only[Sem.run_bind,av8,av9,Result.andThen_ok,mT];simp only[aB.eqb];cases J:j.ty.eqb x.1 y.1
  ·simp
  ·simpa using rest
 | .bool,_,_,_,_,h,_,_,_,_=>by cases h
 | .int _,_,_,_,_,h,_,_,_,_=>by cases h
 | .str,_,_,_,_,h,_,_,_,_=>by cases h
 | .opq,_,_,_,_,h,_,_,_,_=>by cases h
 | .list _,_,_,_,_,h,_,_,_,_=>by cases h
theorem aat (tab:cQ P cx): ∀(n:Nat) (T:bm) (i:gj),cx.ti T=some i->uZ P cx n T=true-> ∀x y cE gU e,n<=e->cA φ w i.ty x cE->cA φ w i.ty y gU->(Op.equalIn e T cE gU).run P w=.ok (i.ty.eqb x y) w
 |0,T,i,_,h=>by cases h
 |n+1,T,i,u,h=>by
  intro x y cE gU e he ai bo;obtain ⟨e,rfl⟩: ∃k,e=k+1:=⟨e-1,by omega⟩;simp only[uZ,u]at h;have al:=(tab T i u).desc;have agg: ∀ty:aB,i.ty=ty->ty.isAgg=true->(!i.arr&&ty.chain&&Nat.beq ty.comps i.fields.length&& !P.stoodInHeld T&&(match P.underlying T with
    |some (.struct ct)=>ct.toList.all (λf=> !(f.name== "_")&&uZ P cx n f.type)
    |_=>false))=true->((i.arr=false/\ ∃ct,P.underlying T=some (.struct ct)/\ct.size=i.fields.length/\ ∀(f:Nat) U,i.fields[f]? =some U-> ∃fd,ct[f]? =some fd/\fd.type=U/\nQ P cx ty f U fd.offset)\/
   (i.arr=true/\ ∃n e dB,P.underlying T=some (.array n e)/\i.fields.length=n/\P.info? e=some dB/\ ∀(f:Nat) U,i.fields[f]? =some U->U=e/\nQ P cx ty f U (f*dB.size)))->(Op.equalIn (e+1) T cE gU).run P w=.ok (i.ty.eqb x y) w:=by
   intro ty ew jx J ot;subst ew;simp only[bN,eJ,Nat.beq_eq]at J;obtain ⟨⟨⟨⟨b1,b2⟩,b3⟩,hs⟩,hI⟩:=J;rcases ot with ⟨-,ct,hu,j4,aL⟩|⟨s,-⟩
   ·rw[hu]at hI;simp only[fy]at hI;have Bf:=ai.2;have Bg:=bo.2;rw[jx]at Bf Bg;obtain ⟨asM,rfl⟩:=uO Bf;obtain ⟨asN,rfl⟩:=uO Bg;have adT:P.fieldsOf T=ct:=by simp[Program.fieldsOf,hu]
    rw[run_equalIn_struct (P:=P) w e T asM asN (by rw[adT];exact hu) hs,adT];have fC:=ai.1.len;have tb:=bo.1.len;refine XF tab (λU j an aD x y cE gU e he=>aat tab n U j an aD x y cE gU e he) (I:=n) (by omega) i.ty ct.toList 0 x y b2 (by simp[j4,b3]) (λf fd mU=> ?_) ?_ ?_
    ·have bd:f<ct.size:=by have:=(iC.1 mU).1;simpa using this
     obtain ⟨adg,g1,g2,g3,j,g4,g5,g6⟩:=aL f _ (hg (by omega));have atS:ct[f]? =some fd:=by simpa using mU
     rw[atS]at g1;obtain rfl:=eW g1;refine ⟨hI fd (List.mem_of_getElem? mU),by rw[g3,Nat.zero_add],j,by rw[g2];exact g4,g5,g6⟩
    ·have:=ai.1;rw[List.drop_zero,h8 (by rw[<-fC];exact b7 _)];exact this
    ·have:=bo.1;rw[List.drop_zero,h8 (by rw[<-tb];exact b7 _)];exact this
   ·rw[b1]at s;cases s
  unfold k6 at al;obtain ⟨ty,el,adh,ayg,BN,ano⟩:=i;simp only at al h ai bo agg x y ⊢;cases ty with
  |bool=>
   obtain rfl:=cA.bool.1 ai;obtain rfl:=cA.bool.1 bo;exact V8 al e x y w
  |int k=>
   obtain rfl:=cA.int.1 ai;obtain rfl:=cA.int.1 bo;simp only[Op.equalIn,Sem.run_bind,run_underlying al,Result.andThen_ok,if_true,Sem.run_pure,aB.eqb];congr 1
  |str=>
   obtain rfl:=cA.str.1 ai;obtain rfl:=cA.str.1 bo;simp only[Op.equalIn,Sem.run_bind,run_underlying al,Result.andThen_ok,Sem.run_pure,aB.eqb];congr 1;rw[beq_toListBytes,qn,qn,uC]
  |list t=>cases h
  |opq=>cases h
  |unit=>exact agg .unit rfl rfl h al
  |pair a b=>exact agg (.pair a b) rfl rfl h al
def OY (P:cq) (cx:cd) (T:bm):Bool:=uZ P cx 20 T&& !P.eqGuardType P.depth T
theorem ar2 (tab:cQ P cx) {T:bm} {i:gj} (u:cx.ti T=some i) (h:OY P cx T=true) (jx:i.ty.isAgg=true):ada P T i.ty:=by
 simp only[OY,bN,eJ]at h;obtain ⟨s,E⟩:=h;intro φ w x y cE gU nX pI ai bo;have he:=aat (w:=w) tab 20 T i u s x y cE gU Op.maxDepth (by decide) ai bo;have Bf:=ai.2;have Bg:=bo.2;rw[jx]at Bf Bg;obtain ⟨cs,rfl⟩:=uO Bf;obtain ⟨e6,rfl⟩:=uO Bg;constructor
 ·simp[eqGuard,E,binOp,Op.equal,he]
 ·simp[eqGuard,E,binOp,Op.equal,he]
end
def cd.plain (cx:cd):cd:={cx with tab:=cx.tab.map λp=>(p.1,{p.2 with cmp:=false})}
def abi (P:cq) (cx:cd):Bool:=OG P cx.plain&&cx.tab.all λp=>GJ P cx p.1 p.2&&Gp P cx p.1 p.2&&(!p.2.cmp||OY P cx.plain p.1)&&Gs P p.1 p.2&&Gt P p.1 p.2
theorem aqO {P:cq} {cx:cd} (h:abi P cx=true):cQ P cx:=by
 have dO: ∀(l:List (Nat×gj)) T i,cd.ti.go T l=some i->(T,i)∈l:=by
  intro l T i
  induction l with
  |nil=>intro h;simp[cd.ti.go]at h
  |cons p l aQ=>
   obtain ⟨U,j⟩:=p;intro h;simp only[cd.ti.go]at h;cases J:Nat.beq T U
   ·simp only[J,ax]at h;exact gO _ (aQ h)
   ·simp only[J,ak,bH]at h;have:T=U:=by simpa using J
    subst this h;simp
 have kJ: ∀(l:List (Nat×gj)) T i,cd.ti.go T l=some i->cd.ti.go T (l.map λp=>(p.1,{p.2 with cmp:=false}))=some {i with cmp:=false}:=by
  intro l T i
  induction l with
  |nil=>intro h;simp[cd.ti.go]at h
  |cons p l aQ=>
   obtain ⟨U,j⟩:=p;intro h;simp only[cd.ti.go,List.map_cons]at h ⊢;cases J:Nat.beq T U
   ·simp only[J,ax]at h ⊢;exact aQ h
   ·simp only[J,ak,bH]at h ⊢;subst h;rfl
 simp only[abi,bN,fy]at h;obtain ⟨s,E⟩:=h;have tab:=asv s;intro T i u;have hm:=dO cx.tab T i u;have O:=E _ hm;simp only[Bool.or_eq_true,eJ]at O;refine ⟨ZQ O.1.1.1.1,YP O.1.1.1.2,λaw _ aS=> ?_,YR O.1.2,YW O.2⟩;have aC:=O.1.1.2.resolve_left (by rw[aw];simp);exact ar2 (i:={i with cmp:=false}) tab (kJ cx.tab T i u) aC aS
theorem aiP {x:Int} (b8: -9223372036854775808<=x) (s:x<9223372036854775808):IntKind.i64.wrap x=x:=O5 b8 s
open Go.RowKit
def UK:List (Nat×Nat)->Nat->Nat->Bool
 |[],_,_=>false
 |(f,j)::l,l8,gL=>(Nat.beq f l8&&Nat.beq j gL)||UK l l8 gL
def UL (R:bO):Shape:=⟨R.map λp=>(p.1,.undef),[]⟩
def Pq [Env] (F:bk) (fn:Func) (args:List K) (H:List aF):DT (K×List aF):=
 bif Nat.ble args.length fn.ntmps then
  (gb {cx:=F.cx,Γ:=F.Γ,Λ:=λ_ _=>.fail,keep:=F.keep,m:=H.length} (fn.body.getD .skip) 0 ⟨fQ 0 args,H⟩).bind λq=>match q.1 with
   | .exit _=>.fail
   |_=>((lX F.cx q.2.regs 0 fn.results.toList).run q.2.heap q.2.heap.length .none).bind λp=>
    ((zV (UL p.1) H.length p.1).run p.2.1 p.2.1.length .none).bind λd=>
     bif decide (d.1.regs.map (·.1)=List.range' 0 fn.results.size) then .leaf (kf d.1.regs,d.1.heap) else .fail
 else .fail
def Bh (f:FuncId) (g:List K->List aF->DT (K×List aF)) (Γ:hG):hG:=λl8 args H=>bif Nat.beq l8 f then g args H else Γ l8 args H
section
variable {P:cq} {H:List aF}
theorem aaq [Env] {f:FuncId} {g:List K->List aF->DT (K×List aF)} {Γ:hG} (h: ∀args H r aA,(g args H).val=some (r,aA)->wx P f args H r aA) (c1:ca P Γ):ca P (Bh f g Γ):=by
 intro l8 args H r aA e;unfold Bh at e;cases J:Nat.beq l8 f
 ·rw[J,ax]at e;exact c1 l8 args H r aA e
 ·rw[J,ak]at e;have:l8=f:=by simpa using J
  subst this;exact h args H r aA e
theorem Fm [Env] {f:FuncId} {g:List K->List aF->DT (K×List aF)} {Γ:hG} (aL:jo f=false) (h: ∀args H r aA,(g args H).val=some (r,aA)->kh P f args H r aA) (c1:ca P Γ):ca P (Bh f g Γ):=
 aaq (λargs H r aA e=>(h args H r aA e).x aL) c1
theorem FJ [Env] {F:bk} (tab:cQ P F.cx) (c1:ca P F.Γ) (hm:P.follows .mixedOrders=true) {f:FuncId} {fn:Func} (aL:P.funcs[f]? =some fn) (J:fn.body=some (bX fn)) (cy:(i8 fn.ntmps (bX fn)&& !(fn.name== "runtime.NumGoroutine")&& !eT (bX fn)&& !gv (bX fn)&&Nat.ble fn.ntmps dE&&Nat.ble fn.results.size dE)=true) (ab:et (bX fn) 0=[])
  (args:List K) (H:List aF) (r:K) (aA:List aF) (e:(Pq F fn args H).val=some (r,aA)):kh P f args H r aA:=by
 simp only[bN,eJ]at cy;obtain ⟨⟨⟨⟨⟨ow,nB⟩,nC⟩,jL⟩,h6⟩,ik⟩:=cy;have h6:=gV h6;have ik:=gV ik;unfold Pq at e;cases QE:Nat.ble args.length fn.ntmps
 ·simp[QE,DT.val]at e
 rw[QE,ak]at e;obtain ⟨⟨L,cn⟩,s,E⟩:=DT.val_bind_some e;have O:L=.nrm\/L=.ret:=by
  cases L with
  |nrm=>exact .inl rfl
  |ret=>exact .inr rfl
  |exit i=>simp[DT.val]at E
 have aC:(((lX F.cx cn.regs 0 fn.results.toList).run cn.heap cn.heap.length .none).bind λp=>
    ((zV (UL p.1) H.length p.1).run p.2.1 p.2.1.length .none).bind λd=>
     bif decide (d.1.regs.map (·.1)=List.range' 0 fn.results.size) then DT.leaf (kf d.1.regs,d.1.heap) else .fail).val=some (r,aA):=by
  rcases O with rfl |rfl<;>exact E
 obtain ⟨⟨R,ba,mn,tv⟩,bF,dN⟩:=DT.val_bind_some aC;have j1:=HM.go_run _ _ _ _ _ _ _ _ bF;obtain ⟨⟨a8,bC,yA,pp⟩,ig,p2⟩:=DT.val_bind_some dN;have as9:=HM.go_run _ _ _ _ _ _ _ _ ig;simp only at p2;cases af:decide (a8.regs.map (·.1)=List.range' 0 fn.results.size)
 ·simp[af,DT.val]at p2
 rw[af,ak]at p2;simp only[DT.val,bH,cV]at p2;obtain ⟨rfl,rfl⟩:=p2;have HY:=of_decide_eq_true af;refine ⟨⟨fn,aL,nB,by rw[J];rfl⟩,?_⟩;intro φ ι w aO eh e9 fA fk;refine xc aL J ?_;have eB:aO.size=args.length:=by
  have: ∀(l:List K) (aO:List az),K.relT φ ι w l aO->aO.length=l.length:=by
   intro l
   induction l with
   |nil=>intro aO h;simp only[K.relT]at h;simp[h]
   |cons r l aQ=>intro aO h;obtain ⟨v,m,rfl,-,h⟩:=h;simp[aQ m h]
  simpa using this _ _ fA
 have dT:aO.size<=fn.ntmps:=by rw[eB];exact gV QE
 have lo:ds φ ι w ⟨fn.ntmps,w.heap.size,[],none,false⟩ ⟨fQ 0 args,H⟩ {tmps:=aO++Array.replicate (fn.ntmps-aO.size) undef,defers:=[]}:=by
  refine ⟨eh,λI r al=> ?_,by simp;omega,h6,nW (b7 _)⟩;obtain ⟨bb,aU,ck⟩:=oC args 0;obtain ⟨k,af,hk⟩:=m6 _ 0 I r (by rw[bb,aU]) al;have gF:I=k:=by omega
  subst gF;have bx:=ck I (I,r) hk;simp only at bx;obtain ⟨v,aZ,ji⟩:=tY fA bx;have eZ:aO[I]? =some v:=by simpa using aZ
  have lL:I<aO.size:=(kT.1 eZ).1;have:(aO++Array.replicate (fn.ntmps-aO.size) undef).getD I undef=v:=by rw[iX,Array.getElem?_append_left lL,eZ];rfl
  rw[iK (by omega),this];exact ⟨ji,λi u=>fk i (tV bx i u)⟩
 have jC:gM H.length H:=λo W=>e9 o W
 have aty:fn.body.getD .skip=bX fn:=rfl;rw[aty]at s;refine nJ (F:={cx:=F.cx,Γ:=F.Γ,Λ:=λ_ _=>.fail,keep:=F.keep,m:=H.length}) tab c1 hm (bX fn) 0 _ L cn φ ι w _ _ s (by rw[ab];simp) ow (eN _ nC) (iD.fn jL) lo jC λbn ao av aH cR sp bS=> ?_
 refine Ef O cR sp λao cR sp=> ?_
 have lj:=bS.live jC;obtain ⟨bj,bG,us,dm,cJ,fW,hU⟩:=vW tab fn.results.toList 0 R cn.heap _ ba mn j1 cR.heap cR.regs;have ko:R.length=us.length:=by have:=congrArg List.length fW;simpa [cJ] using this
 have rr:mH av aH ao ba R (λI=>us.toArray.getD I undef):=by
  rw[bj];intro I r al;obtain ⟨k,af,hk⟩:=m6 R 0 I r (by rw[fW];congr 1;omega) al;have gF:I=k:=by omega
  subst gF;obtain ⟨v,aZ,ji,gG⟩:=hU I (I,r) hk;have:us.toArray.getD I undef=v:=by simp[iX,aZ]
  simp only[this];exact ⟨ji,gG⟩
 obtain ⟨ec,ei,dU,c6,fm,lS,qh,af3,ayW⟩:=aaW (jQ:=λI=>us.toArray.getD I undef) as9 rfl (by rw[bj];exact cR.heap) rr (by rw[bj];exact lj);have hP:a8.regs.length=us.toArray.size:=by have:=congrArg List.length HY;simp only[List.length_map,List.length_range']at this;rw[this];simp[cJ]
 obtain ⟨ah,aJ⟩:=uL (aO:=us.toArray) (R:=a8.regs) (by rw[HY];congr 1;simpa [cJ] using hP.symm) hP c6;have mi:=vX dm;refine ⟨_,mi,_,ec,ei,rfl,dU,?_,?_,ah,aJ⟩
 ·rw[bj]at fm;exact sp.trans fm
 ·rw[bj]at lS;have iJ:=bS.trans lS;refine ⟨λo W=> ?_,λo W=> ?_⟩
  ·exact (iJ o (gB W) W).1
  ·exact (iJ o (gB W) W).2
end
open Go.RowKit
structure acm [Env] (F:bk) (ops:Array Oper) (st:bz) (gz:bz->Prop) (os:List Oper) (o:Oper) (T:bm) (x:Operand) (I:Tmp) (eo:bz) (t:aB) (xs:List t.den):Prop where
 split:ops.toList=os++[o]
 op:o.op=.binOp .eql T x (.const (.slice none 0 0)) T
 dst:o.dst=some I
 guard:o.guard=none
 run:(oM F.cx F.Γ ops os st).val=some eo
 val:h2 eo.regs x=.dat (.list t) xs
 ty:F.cx.isTy T (.list t)=true
 yes:xs=[]->gz ⟨eo.regs.put I (.dat .bool true),eo.heap⟩
 no:gz ⟨eo.regs.put I (.dat .bool false),eo.heap⟩
def zA [Env] (F:bk) (c:Code) (k:Nat) (st:bz) (gz:ed->bz->Prop):Prop:= ∃e a8,(gb F c k st).val=some (e,a8)/\gz e a8
def kV [Env] (F:bk):Code->Nat->bz->(ed->bz->Prop)->Prop
 | .seq a b,k,st,gz=>zA F (.seq a b) k st gz\/kV F a k st λe a8=>(e=.nrm->kV F b k a8 gz)/\(e≠ .nrm->gz e a8)
 | .cond c a b,k,st,gz=>zA F (.cond c a b) k st gz\/ ∃I t,c=.tmp I/\st.regs.get I=some (.dat .bool t)/\(t=true->kV F a k st gz)/\(t=false->kV F b k st gz)
 | .region id ops false,k,st,gz=>zA F (.region id ops false) k st gz\/(∃a8,(oM F.cx F.Γ ops ops.toList st).val=some a8/\gz .nrm a8)\/ ∃os o T x I eo t xs,acm F ops st (gz .nrm) os o T x I eo t xs
 |c,k,st,gz=>zA F c k st gz
theorem kV.det [Env] {F:bk} {c:Code} {k:Nat} {st:bz} {gz:ed->bz->Prop} (h:zA F c k st gz):kV F c k st gz:=by
 cases c with
 |region id ops draw=>cases draw<;>first |exact h |exact .inl h
 |_=>first |exact h |exact .inl h
section
variable {P:cq} {nt:js} {φ:bJ} {ι:Nat->az} {w:bh} {H:List aF}
theorem alV {T e:bm} (hu:P.underlying T=some (.slice e)) (I:Nat) (A:Option Addr) (n c:Nat) (w:bh):(Op.equalIn (I+1) T (.slice A n c) (.slice none 0 0)).run P w=.ok A.isNone w:=by cases A<;>simp[Op.equalIn,run_underlying hu]
theorem am4 {T e:bm} (hu:P.underlying T=some (.slice e)) (A:Option Addr) (n c:Nat) (w:bh):(Op.equal T (.slice A n c) (.slice none 0 0)).run P w=.ok A.isNone w:=alV hu 9999 A n c w
theorem aag [Env] {cx:cd} {Γ:hG} (tab:cQ P cx) (c1:ca P Γ) {ops:Array Oper} {bD:Exit->Act->bh->Prop} {rest:List Oper}: ∀(l:List Oper) (st a8:bz) (φ:bJ) (ι:Nat->az) (w:bh) (a:Act),(oM cx Γ ops l st).val=some a8->ds φ ι w nt st a->l.all (pT nt.n)=true->l.any u2=false->
  (∀bn ao av aH,ds av aH ao nt a8 bn->Step φ ι w st.heap av aH ao a8.heap->ej ι st.heap aH a8.heap->wpListIn (eX nt.ro) 0 P ops bD rest bn ao)->wpListIn (eX nt.ro) 0 P ops bD (l++rest) a w
 |[],st,a8,φ,ι,w,a,e,d,al,kI,k=>by simp only[oM,DT.val,bH]at e;subst e;exact k a w φ ι d (Step.refl _ _ _ _) (ej.refl _ _)
 |o::l,st,a8,φ,ι,w,a,e,d,al,kI,k=>by
  simp only[oM]at e;obtain ⟨cn,b6,aa⟩:=DT.val_bind_some e;simp only[List.all_cons,bN]at al;simp only[List.any_cons,Bool.or_eq_false_iff]at kI;obtain ⟨⟨eo,m,p⟩,L,a1⟩: ∃q,(qq cx Γ ops o st st.heap.length).val=some q/\q.1=cn:=by
   split at b6
   ·rename_i c W;simp[u2,W]at kI
   ·obtain ⟨q,a1,bq⟩:=DT.val_bind_some b6;simp only[DT.val,bH]at bq;exact ⟨q,a1,bq⟩
  simp only at a1;subst a1;have q:=MU (bD:=bD) tab c1 L d (Om _ _) al.1 λbn ao av aH s1 t1 bb c8=>
   aag tab c1 l eo a8 av aH ao bn aa s1 al.2 kI.2 λa2 de ec ei s2 t2 aU=>k a2 de ec ei s2 (t1.trans t2) (bb.trans aU)
  rw[List.cons_append];unfold wpListIn;split
  ·rename_i h;rw[if_pos h]at q;exact q
  ·rename_i h;rw[if_neg h]at q;exact ⟨λ_ _=>trivial,q⟩
theorem an6 [Env] {F:bk} (tab:cQ P F.cx) (c1:ca P F.Γ) {ops:Array Oper} {st:bz} {gz:bz->Prop} {os:List Oper} {o:Oper} {T:bm} {x:Operand} {I:Tmp} {eo:bz} {t:aB} {xs:List t.den} (aY:acm F ops st gz os o T x I eo t xs)
  {bD:Exit->Act->bh->Prop} {a:Act} {id:Nat} (al:ops.toList.all (pT nt.n)=true) (kI:ops.toList.any u2=false) (d:ds φ ι w nt st a)
  (k: ∀a8 bn ao av aH,gz a8->ds av aH ao nt a8 bn->Step φ ι w st.heap av aH ao a8.heap->ej ι st.heap aH a8.heap->bD .normal bn ao):(Code.region id ops false).wpIn (eX nt.ro) 0 P bD a w:=by
 refine wpIn_region_list ?_;rw[aY.split]at al kI ⊢;rw[List.any_append,Bool.or_eq_false_iff]at kI;simp only[List.all_append,List.all_cons,List.all_nil,Bool.and_true,bN]at al;refine aag tab c1 os st eo φ ι w a aY.run d al.1 kI.1 λbn ao av aH s1 t1 bb=> ?_
 have ai:=(s1.eval x).1;rw[aY.val]at ai;have yf:cA av ao (.list t) xs (bn.eval x):=ai;obtain ⟨A,m,c,aZ,ab,vg,oz⟩:=cA.list yf;obtain ⟨ti,fl,ew⟩:=hK aY.ty;have hu:=(kL tab fl ew).1;have hw:Region.wanted o (yielded ops bn.tmps)=true:=by simp[Region.wanted,aY.guard]
 simp only[wpListIn];rw[if_pos hw];have he:(execOp bn.eval o).run P ao=.ok (.value (.bool A.isNone)) ao:=by simp only[execOp,aY.op,aZ];rw[show bn.eval (.const (.slice none 0 0))=.slice none 0 0 from rfl];simp[eqGuard,binOp,am4 hu]
 have key: ∀b,A.isNone=b->gz ⟨eo.regs.put I (.dat .bool b),eo.heap⟩->bD .normal (bn.put o.dst (.bool A.isNone)) ao:=by
  intro b J aP;rw[J];have cg:ds av aH ao nt ⟨eo.regs.put I (.dat .bool b),eo.heap⟩ (bn.put o.dst (.bool b)):=by
   have ot: ∀e,o.dst=some e->e<nt.n:=λe he=>by have:=al.2;unfold pT at this;rw[he]at this;simpa using this
   have:=s1.after s1.heap (Step.refl _ _ _ _) (ej.refl _ _) ot (r:=.dat .bool b) (v:=.bool b) (h3 (cA.bool.2 rfl)) (by simp[K.ids]);rw[aY.dst]at this ⊢;exact this
  exact k _ _ _ _ _ aP cg t1 bb
 refine uI (λc aw=>by rw[aY.op]at aw;cases aw) ?_;rw[he];simp only[Oper.uponIn_value];cases A with
 |none=>
  have b8:xs=[]:=kU (by
   rcases oz with h |⟨b,o,cs,h,_⟩
   ·omega
   ·cases h)
  exact key true rfl (aY.yes b8)
 |some akn=>exact key false rfl aY.no
theorem arl [Env] {F:bk} (tab:cQ P F.cx) (c1:ca P F.Γ) (hm:P.follows .mixedOrders=true): ∀(c:Code) (k:Nat) (st:bz) (gz:ed->bz->Prop) (φ:bJ) (ι:Nat->az) (w:bh) (a:Act) (bD:Exit->Act->bh->Prop),kV F c k st gz->
  (∀q∈et c k,hl P F nt.n q.1 q.2)->i8 nt.n c=true->(eT c=false/\gv c=false)->ds φ ι w nt st a->gM F.m st.heap->
  (∀e a8 bn ao av aH,gz e a8->ds av aH ao nt a8 bn->Step φ ι w st.heap av aH ao a8.heap->ic F.m ι st.heap aH a8.heap->bD (kY e) bn ao)->c.wpIn (eX nt.ro) 0 P bD a w:=by
 intro c
 induction c with
 |seq x y jj jk=>
  intro k st gz φ ι w a bD h ab aw cX cg lm c2;simp only[kV]at h;rcases h with ⟨e,a8,s,E⟩|h
  ·exact nJ tab c1 hm _ k st e a8 φ ι w a bD s ab aw (eN _ cX.1) (iD.no cX.1 cX.2) cg lm λbn ao av aH cR sp bS=>c2 e a8 bn ao av aH E cR sp bS
  simp only[i8,bN]at aw;simp only[eT,gv,Bool.or_eq_false_iff]at cX;refine wpIn_seq (jj k st _ φ ι w a _ h (λq aD=>ab q (by simp[et,aD])) aw.1 ⟨cX.1.1,cX.2.1⟩ cg lm λL cn bn ao av aH aP cR sp bS=> ?_);by_cases he:L=.nrm
  ·subst he;exact jk k cn gz av aH ao bn bD (aP.1 rfl) (λq aD=>ab q (by simp[et,aD])) aw.2 ⟨cX.1.2,cX.2.2⟩ cR (bS.live lm) λaa eo a2 de ec ei mZ kd pE m3=>c2 aa eo a2 de ec ei mZ kd (sp.trans pE) (bS.trans m3)
  ·have aD:=c2 L cn bn ao av aH (aP.2 he) cR sp bS;cases L with
   |nrm=>exact absurd rfl he
   |exit i=>exact aD
   |ret=>exact aD
 |cond c x y jj jk=>
  intro k st gz φ ι w a bD h ab aw cX cg lm c2;simp only[kV]at h;rcases h with ⟨e,a8,s,E⟩|h
  ·exact nJ tab c1 hm _ k st e a8 φ ι w a bD s ab aw (eN _ cX.1) (iD.no cX.1 cX.2) cg lm λbn ao av aH cR sp bS=>c2 e a8 bn ao av aH E cR sp bS
  obtain ⟨I,t,rfl,al,aT,aL⟩:=h;simp only[i8,bN]at aw;simp only[eT,gv,Bool.or_eq_false_iff]at cX;have J:=(cg.regs I _ al).1;have cC:I≠dE:=λe=>by have E:=cA.bool.1 J;rw[e,qJ]at E;cases E
  rw[iK cC]at J;have J:a.eval (.tmp I)=.bool t:=cA.bool.1 J;refine wpIn_cond J ?_;cases t
  ·exact jk k st gz φ ι w a bD (aL rfl) (λq aD=>ab q (by simp[et,aD])) aw.2 ⟨cX.1.2,cX.2.2⟩ cg lm c2
  ·exact jj k st gz φ ι w a bD (aT rfl) (λq aD=>ab q (by simp[et,aD])) aw.1 ⟨cX.1.1,cX.2.1⟩ cg lm c2
 |region id ops draw=>
  intro k st gz φ ι w a bD h ab aw cX cg lm c2;cases draw with
  |true=>
   simp only[kV]at h;obtain ⟨e,a8,s,E⟩:=h;exact nJ tab c1 hm _ k st e a8 φ ι w a bD s ab aw (eN _ cX.1) (iD.no cX.1 cX.2) cg lm λbn ao av aH cR sp bS=>c2 e a8 bn ao av aH E cR sp bS
  |false=>
   simp only[kV]at h;rcases h with ⟨e,a8,s,E⟩|⟨a8,s,E⟩|⟨os,o,T,x,I,eo,t,xs,kn⟩
   ·exact nJ tab c1 hm _ k st e a8 φ ι w a bD s ab aw (eN _ cX.1) (iD.no cX.1 cX.2) cg lm λbn ao av aH cR sp bS=>c2 e a8 bn ao av aH E cR sp bS
   ·exact wpIn_region_list (J2 tab c1 ops.toList st a8 φ ι w a s cg aw (λh=>absurd (cX.2.symm.trans h) (by simp)) λbn ao av aH cR sp bS=>c2 .nrm a8 bn ao av aH E cR sp (bS.keepM _))
   ·exact an6 tab c1 kn aw cX.2 cg λa8 bn ao av aH aP cR sp bS=>c2 .nrm a8 bn ao av aH aP cR sp (bS.keepM _)
 |_=>
  intro k st gz φ ι w a bD h ab aw cX cg lm c2;simp only[kV]at h;obtain ⟨e,a8,s,E⟩:=h;exact nJ tab c1 hm _ k st e a8 φ ι w a bD s ab aw (eN _ cX.1) (iD.no cX.1 cX.2) cg lm λbn ao av aH cR sp bS=>c2 e a8 bn ao av aH E cR sp bS
def UM [Env] (F:bk) (fn:Func) (Z:Shape) (z:Z.ty.den) (e:ed) (st:bz):Prop:=
 (e=.nrm\/e=.ret)/\(((lX F.cx st.regs 0 fn.results.toList).run st.heap st.heap.length .none).bind λ(R,h,_,_)=>Z.take F.m ⟨R,h⟩).val=some z
theorem arn [Env] {F:bk} (tab:cQ P F.cx) (c1:ca P F.Γ) (hm:P.follows .mixedOrders=true) {f:FuncId} {fn:Func} {c:Code} {S Z:Shape} (aL:P.funcs[f]? =some fn) (J:fn.body=some c) (cy:nn fn S Z=true) (dO: ∀q∈et c 0,hl P F fn.ntmps q.1 q.2) (cX:eT c=false)
  {args:List K} (fb:F.m=S.objs.length) {d:S.ty.den} {z:Z.ty.den} (ae:S.dec ⟨fQ 0 args,H⟩=some d) (e:kV F c 0 (S.enc d) (UM F fn Z z)):kh P f args H (kf (Z.enc z).regs) (Z.enc z).heap:=by
 have gR:=Shape.dec_enc ae;simp only[nn,J,bN,eJ,dJ]at cy;obtain ⟨⟨⟨⟨⟨⟨ow,jL⟩,h6⟩,ik⟩,nB⟩,nC⟩,nD⟩:=cy;have h6:=gV h6;have ik:=gV ik;have iH:args.length=S.regs.length/\H.length=S.objs.length:=by
  unfold Shape.dec at ae;simp only at ae;cases aS:iV S.regs (fQ 0 args) with
  |none=>simp[aS]at ae
  |some x=>
   cases J:fR S.objs H with
   |none=>simp[aS,J]at ae
   |some y=>
    refine ⟨by rw[<-y2 _ _ _ aS,(oC args 0).2.1],?_⟩;have: ∀(d:List dX) (R:List aF) (l:List eD),fR d R=some l->R.length=d.length:=by
     intro d
     induction d with
     |nil=>intro R l h;cases R<;>simp[fR]at h ⊢
     |cons a d aQ=>
      intro R l h;cases R with
      |nil=>simp[fR]at h
      |cons b R=>
       simp only[fR]at h;split at h
       ·obtain ⟨b,J,-⟩:=h7.1 h;simp[aQ R b J]
       ·cases h
    exact this _ _ _ J
 refine ⟨⟨fn,aL,nB,by rw[J];rfl⟩,?_⟩
 ·intro φ ι w aO eh e9 fA fk;refine xc aL J ?_;have eB:aO.size=args.length:=by
   have: ∀(l:List K) (aO:List az),K.relT φ ι w l aO->aO.length=l.length:=by
    intro l
    induction l with
    |nil=>intro aO h;simp only[K.relT]at h;simp[h]
    |cons r l aQ=>intro aO h;obtain ⟨v,m,rfl,-,h⟩:=h;simp[aQ m h]
   simpa using this _ _ fA
  have dT:aO.size<=fn.ntmps:=by rw[eB,iH.1];exact gV nC
  have lo:ds φ ι w ⟨fn.ntmps,w.heap.size,[],none,false⟩ (S.enc d) {tmps:=aO++Array.replicate (fn.ntmps-aO.size) undef,defers:=[]}:=by
   rw[gR];refine ⟨eh,λI r al=> ?_,by simp;omega,h6,nW (b7 _)⟩;obtain ⟨bb,aU,ck⟩:=oC args 0;obtain ⟨k,af,hk⟩:=m6 _ 0 I r (by rw[bb,aU]) al;have gF:I=k:=by omega
   subst gF;have bx:=ck I (I,r) hk;simp only at bx;obtain ⟨v,aZ,ji⟩:=tY fA bx;have eZ:aO[I]? =some v:=by simpa using aZ
   have lL:I<aO.size:=(kT.1 eZ).1;have:(aO++Array.replicate (fn.ntmps-aO.size) undef).getD I undef=v:=by rw[iX,Array.getElem?_append_left lL,eZ];rfl
   rw[iK (by omega),this];exact ⟨ji,λi u=>fk i (tV bx i u)⟩
  have ph:(S.enc d).heap=H:=by rw[gR]
  have jC:gM F.m (S.enc d).heap:=by rw[ph,fb,<-iH.2];exact λo W=>e9 o W
  refine arl tab c1 hm c 0 _ _ φ ι w _ _ e dO ow ⟨cX,jL⟩ lo jC λL cn bn ao av aH aP cR sp bS=> ?_
  obtain ⟨O,aC⟩:=aP;rw[ph]at sp;refine Ef O cR sp λao cR sp=> ?_
  obtain ⟨⟨R,ba,mn,tv⟩,bF,dN⟩:=DT.val_bind_some aC;have j1:=HM.go_run _ _ _ _ _ _ _ _ bF;have kH:(Z.enc z).regs.map (·.1)=List.range' 0 fn.results.size:=by
   obtain ⟨⟨a8,bC,yA,pp⟩,bb,aU⟩:=DT.val_bind_some dN;simp only[DT.val_ofOpt]at aU;have ck:(Z.enc z).regs.map (·.1)=Z.regs.map (·.1):=by
    unfold Shape.dec at aU;cases aS:iV Z.regs a8.regs with
    |none=>simp[aS]at aU
    |some x=>
     cases J:fR Z.objs a8.heap with
     |none=>simp[aS,J]at aU
     |some y=>
      have:=rD _ _ x [] aS;rw[Shape.dec_enc (st:=a8) (by simp only[Shape.dec,aS,J]at aU ⊢;exact aU)];exact vU _ _ _ _ this
   rw[ck,nD]
  have lj:=bS.live jC;obtain ⟨bj,bG,us,dm,cJ,fW,hU⟩:=vW tab fn.results.toList 0 R cn.heap _ ba mn j1 cR.heap cR.regs;have ko:R.length=us.length:=by have:=congrArg List.length fW;simpa [cJ] using this
  have kd:ds av aH ao ⟨us.toArray.size,0,[],none,false⟩ ⟨R,ba⟩ {tmps:=us.toArray,defers:=[]}:=by
   rw[bj];refine ⟨cR.heap,λI r al=> ?_,rfl,by rw[List.size_toArray,cJ];simpa using ik,nW (Nat.zero_le _)⟩;obtain ⟨k,af,hk⟩:=m6 R 0 I r (by rw[fW];congr 1;omega) al;have gF:I=k:=by omega
   subst gF;obtain ⟨v,aZ,ji,gG⟩:=hU I (I,r) hk;have:us.toArray.getD I undef=v:=by simp[iX,aZ]
   have lL:I<us.length:=(iC.1 aZ).1;have Rg:fn.results.toList.length=fn.results.size:=by simp
   rw[iK (by omega)];simp only[this];exact ⟨ji,gG⟩
  obtain ⟨ec,ei,dU,c6,fm,lS,qh⟩:=lH dN kd (by rw[bj];exact lj);have hP:(Z.enc z).regs.length=us.toArray.size:=by have:=congrArg List.length kH;simp only[List.length_map,List.length_range']at this;rw[this];simp[cJ]
  obtain ⟨ah,aJ⟩:=uL (aO:=us.toArray) (R:=(Z.enc z).regs) (by rw[kH];congr 1;simpa [cJ] using hP.symm) hP (wS (a:={tmps:=us.toArray,defers:=[]}) (by rw[kH];congr 1;simpa [cJ] using hP.symm) (by rw[hP,List.size_toArray,cJ];simpa using ik) dU.regs);have mi:=vX dm;refine ⟨_,mi,_,ec,ei,rfl,dU.heap,?_,?_,ah,aJ⟩
  ·rw[bj]at c6;exact sp.trans c6
  ·rw[ph]at bS;rw[bj]at fm;have iJ:=bS.trans fm;refine ⟨λo W=> ?_,λo W=> ?_⟩
   ·have bd:o<F.m:=by rw[fb,<-iH.2];exact gB W
    exact (iJ o bd W).1
   ·have bd:o<F.m:=by rw[fb,<-iH.2];exact gB W
    exact (iJ o bd W).2
end
def Gk:Code->Option (Array Oper×Array Oper×Tmp×Code×Code)
 | .seq (.region _ tm false) (.seq (.seq (.region _ fE false) (.cond (.tmp I) A .skip)) B)=>some (tm,fE,I,A,B)
 |_=>none
def wq:List Oper->Option (List Oper×Oper)
 |[]=>none
 |[o]=>some ([],o)
 |o::l=>match wq l with
  |some (os,q)=>some (o::os,q)
  |none=>none
def Ph (y:Operand):Bool:=match y with
 | .const (.slice none 0 0)=>true
 |_=>false
def Ba [Env] (F:bk) (fn:Func) (Z:Shape) (c:Code) (gI:bz) (b:Bool):DT (Z.ty.den×Nat):=match Gk c with
 |some (tm,fE,I,A,B)=>(oM F.cx F.Γ tm tm.toList gI).bind λcn=>match wq fE.toList with
  |some (os,o)=>match o.op,o.dst,o.guard with
   | .binOp .eql T x y U,some lF,none=>bif Nat.beq I lF&&Ph y&&Nat.beq U T then
     (oM F.cx F.Γ fE os cn).bind λeo=>match h2 eo.regs x with
      | .dat (.list t) aW=>bif F.cx.isTy T (.list t) then
        (gb F (match b with |true=>A |false=>B) 0 ⟨eo.regs.put I (.dat .bool b),eo.heap⟩).bind λq=>match q.1 with
         | .ret=>(((lX F.cx q.2.regs 0 fn.results.toList).run q.2.heap q.2.heap.length .none).bind λ(R,h,_,_)=>Z.take F.m ⟨R,h⟩).bind λz=>.leaf (z,aW.length)
         |_=>.fail
       else .fail
      |_=>.fail
    else .fail
   |_,_,_=>.fail
  |none=>.fail
 |none=>.fail
theorem X2: ∀{l:List Oper} {os:List Oper} {o:Oper},wq l=some (os,o)->l=os++[o]
 |[],_,_,h=>by simp[wq]at h
 |[a],os,o,h=>by simp only[wq,bH,cV]at h;obtain ⟨rfl,rfl⟩:=h;rfl
 |a::b::l,os,o,h=>by
  simp only[wq]at h;split at h
  ·rename_i ayY q aD;simp only[bH,cV]at h;obtain ⟨rfl,rfl⟩:=h;have:=X2 (l:=b::l) aD;rw[this];rfl
  ·cases h
theorem apF {c:Code} {tm fE:Array Oper} {I:Tmp} {A B:Code} (h:Gk c=some (tm,fE,I,A,B)): ∃i0 i1,c=.seq (.region i0 tm false) (.seq (.seq (.region i1 fE false) (.cond (.tmp I) A .skip)) B):=by
 unfold Gk at h;split at h
 ·simp only[bH,cV]at h;obtain ⟨rfl,rfl,rfl,rfl,rfl⟩:=h;exact ⟨_,_,rfl⟩
 ·cases h
theorem acO {α:Type} {x:DT α} {a b:α} (h:x.val=some a) (g:x.val=some b):a=b:=by rw[h]at g;exact eW g
theorem apZ [Env] {F:bk} {fn:Func} {Z:Shape} {c:Code} {gI:bz} {z Eo:Z.ty.den} {n avA:Nat} (bU:(Ba F fn Z c gI true).val=some (Eo,avA)) (e7:(Ba F fn Z c gI false).val=some (z,n)) (b8:n=0->Eo=z):kV F c 0 gI (UM F fn Z z):=by
 unfold Ba at bU e7;cases aw:Gk c with
 |none=>rw[aw]at e7;simp[DT.val]at e7
 |some q=>
  obtain ⟨tm,fE,I,A,B⟩:=q;rw[aw]at bU e7;obtain ⟨i0,i1,rfl⟩:=apF aw;simp only at bU e7;obtain ⟨cn,L,e7⟩:=DT.val_bind_some e7;obtain ⟨tH,gC,bU⟩:=DT.val_bind_some bU;obtain rfl:=acO L gC;clear gC;cases ae:wq fE.toList with
  |none=>rw[ae]at e7;simp[DT.val]at e7
  |some q=>
   obtain ⟨os,o⟩:=q;rw[ae]at bU e7;simp only at bU e7;split at e7
   case h_2=>simp[DT.val]at e7
   rename_i T x y U lF W al bu;rw[W,al,bu]at bU;simp only at bU;cases J:Nat.beq I lF&&Ph y&&Nat.beq U T
   ·rw[J]at e7;simp[DT.val]at e7
   rw[J,ak]at bU e7;simp only[bN,Nat.beq_eq]at J;obtain ⟨⟨rfl,bo⟩,rfl⟩:=J;obtain rfl:y=.const (.slice none 0 0):=by
    unfold Ph at bo;split at bo
    ·rfl
    ·cases bo
   obtain ⟨eo,aa,e7⟩:=DT.val_bind_some e7;obtain ⟨SE,mO,bU⟩:=DT.val_bind_some bU;obtain rfl:=acO aa mO;clear mO;split at e7
   case h_2=>simp[DT.val]at e7
   rename_i t aW ai;rw[ai]at bU;simp only at bU;cases ew:F.cx.isTy U (.list t)
   ·rw[ew]at e7;simp[DT.val]at e7
   rw[ew,ak]at bU e7;obtain ⟨⟨ac6,tI⟩,f1,e7⟩:=DT.val_bind_some e7;obtain ⟨⟨ac7,aw1⟩,t1,bU⟩:=DT.val_bind_some bU;simp only at f1 t1 e7 bU;have awy:ac6=.ret:=by cases ac6<;>first |rfl |simp[DT.val]at e7
   have awz:ac7=.ret:=by cases ac7<;>first |rfl |simp[DT.val]at bU
   subst awy awz;obtain ⟨mz,f2,e7⟩:=DT.val_bind_some e7;obtain ⟨z2,t2,bU⟩:=DT.val_bind_some bU;simp only[DT.val,bH,cV]at e7 bU;obtain ⟨rfl,rfl⟩:=e7;obtain ⟨rfl,rfl⟩:=bU;have aem: ∀b,(eo.regs.put I (.dat .bool b)).get I=some (.dat .bool b):=λb=>by rw[bO.get_put,if_pos rfl]
   refine .inr (.inr (.inl ⟨cn,L,λ_=> ?_,λh=>absurd rfl h⟩));refine .inr (.inr (.inr (.inr ⟨os,o,U,x,I,eo,t,aW,⟨X2 ae,W,al,bu,aa,ai,ew,λRA=>⟨λ_=> ?_,λh=>absurd rfl h⟩,⟨λ_=> ?_,λh=>absurd rfl h⟩⟩⟩)))
   ·have bI:=b8 (by rw[RA];rfl);subst bI;exact .inr ⟨I,true,rfl,aem true,λ_=>kV.det ⟨.ret,aw1,t1,λh=>(by cases h),λ_=>⟨.inr rfl,t2⟩⟩,λh=>by cases h⟩
   ·exact .inr ⟨I,false,rfl,aem false,λh=>(by cases h),λ_=>kV.det ⟨.nrm,_,rfl,λ_=>kV.det ⟨.ret,tI,f1,.inr rfl,f2⟩,λh=>absurd rfl h⟩⟩
theorem abq [Env] {P:cq} {F:bk} (tab:cQ P F.cx) (c1:ca P F.Γ) (hm:P.follows .mixedOrders=true) {cM:aV} {fn:Func} (aL:P.funcs[cM.f]? =some fn) (J:fn.body=some (bX fn)) (cy:nn fn cM.S cM.Z=true) (ab:et (bX fn) 0=[]) (cX:eT (bX fn)=false)
  (fb:F.m=cM.S.objs.length) (room:cM.S.ty.den->Bool) (out Eo:cM.S.ty.den->cM.Z.ty.den) (n:cM.S.ty.den->Nat) (bu: ∀d,cM.g d=bif room d then some (out d) else none) (e7: ∀d,(Ba F fn cM.Z (bX fn) (cM.S.enc d) false).val=bif room d then some (out d,n d) else none)
  (bU: ∀d,(Ba F fn cM.Z (bX fn) (cM.S.enc d) true).val=some (Eo d,n d)) (b8: ∀d,n d=0->Eo d=out d):cF P cM:=by
 intro args H d z ae bI;rw[bu]at bI;cases au:room d
 ·rw[au]at bI;cases bI
 ·rw[au,ak]at bI;obtain rfl:=eW bI;have adt:=e7 d;rw[au,ak]at adt;exact arn tab c1 hm aL J cy (by rw[ab];simp) cX fb ae (apZ (bU d) adt (b8 d))
open Go.RowKit
abbrev l4 (cx:cd) (Γ:hG) (Λ:Nat->bz->DT (ed×bz)) (m:Nat):bk:={cx:=cx,Γ:=Γ,Λ:=Λ,keep:=λ_=>none,m:=m}
def E0 [Env] (cx:cd) (Γ:hG) (f:FuncId) (fn:Func) (Δ:hG):hG:=Bh f (Pq (l4 cx Γ (λ_ _=>.fail) 0) fn) Δ
section
variable {P:cq}
theorem wT [Env] {F:bk} {nt k:Nat} {c:Code} (h: ∀st,F.Λ k st=.fail):hl P F nt k c:=λ_ st e a8 φ ι w a bD _ _ aZ=>by rw[h]at aZ;cases aZ
theorem F5 [Env] {f:FuncId} {S Z:Shape}:cF P ⟨f,S,Z,λ_=>none⟩:=λ_ _ _ _ _ h=>by cases h
theorem wX: ∀(k:Nat) (l m:List K),fQ k l=fQ k m->l=m
 |_,[],[],_=>rfl
 |_,[],_::_,h=>by simp[fQ]at h
 |_,_::_,[],h=>by simp[fQ]at h
 |k,a::l,b::m,h=>by simp only[fQ,List.cons.injEq,cV,true_and]at h;rw[h.1,wX (k+1) l m h.2]
theorem ajV [Env] {f:FuncId} {fn:Func} (aL:P.funcs[f]? =some fn) (cy:(!(fn.name== "runtime.NumGoroutine")&& !fn.body.isNone)=true) {g:List UInt8->List UInt8->Int}
  (h: ∀(a b:ByteArray) (w:bh),Calls P f #[.string a,.string b] w λe ao=>e=.returned (.int .i64 (g a.data.toList b.data.toList))/\ao=w):
  cF P ⟨f,⟨[(0,.dat .str),(1,.dat .str)],[]⟩,⟨[(0,.dat (.int .i64))],[]⟩,λd=>some (g d.1 d.2.1,())⟩:=by
 intro args H d z ae bI;have gR:=Shape.dec_enc ae;obtain rfl:=eW bI;obtain ⟨a,b,ad⟩:=d;have iT:(Shape.enc ⟨[(0,.dat .str),(1,.dat .str)],[]⟩ (a,b,ad))=⟨[(0,.dat .str a),(1,.dat .str b)],[]⟩:=rfl;have gR:=iT.symm.trans gR;injection gR with s E
 obtain rfl:args=[.dat .str a,.dat .str b]:=(wX 0 [.dat .str a,.dat .str b] args s).symm;subst E;simp only[bN,eJ]at cy;refine ⟨⟨fn,aL,cy.1,cy.2⟩,fun φ ι w aO eh e9 fA fk=> ?_⟩;obtain ⟨v1,dU,L,ah,v2,c6,aa,aJ,hm⟩:=fA;simp only[K.relT]at hm;subst hm aa;have gC:v1=.string ⟨⟨a⟩⟩:=cA.str.1 ah;have mO:v2=.string ⟨⟨b⟩⟩:=cA.str.1 aJ;subst gC mO;obtain rfl:aO= #[.string ⟨⟨a⟩⟩,.string ⟨⟨b⟩⟩]:=by cases aO;simp at L;simp[L]
 refine (h ⟨⟨a⟩⟩ ⟨⟨b⟩⟩ w).mono ?_;rintro e ao ⟨rfl,rfl⟩;exact ⟨_,φ,ι,rfl,eh,Step.refl _ _ _ _,ej.refl _ _,h3 (cA.int.2 rfl),λi u=>absurd (show i∈([]:List Nat) from u) (by simp)⟩
theorem ajU [Env] {f:FuncId} {fn:Func} (aL:P.funcs[f]? =some fn) (cy:(!(fn.name== "runtime.NumGoroutine")&& !fn.body.isNone)=true) {g:List UInt8->Int->Int}
  (h: ∀(a:ByteArray) (c:Int) (w:bh),Calls P f #[.string a,.int .u8 c] w λe ao=>e=.returned (.int .i64 (g a.data.toList c))/\ao=w):
  cF P ⟨f,⟨[(0,.dat .str),(1,.dat (.int .u8))],[]⟩,⟨[(0,.dat (.int .i64))],[]⟩,λd=>some (g d.1 d.2.1,())⟩:=by
 intro args H d z ae bI;have gR:=Shape.dec_enc ae;obtain rfl:=eW bI;obtain ⟨a,b,ad⟩:=d;have iT:(Shape.enc ⟨[(0,.dat .str),(1,.dat (.int .u8))],[]⟩ (a,b,ad))=⟨[(0,.dat .str a),(1,.dat (.int .u8) b)],[]⟩:=rfl;have gR:=iT.symm.trans gR;injection gR with s E
 obtain rfl:args=[.dat .str a,.dat (.int .u8) b]:=(wX 0 [.dat .str a,.dat (.int .u8) b] args s).symm;subst E;simp only[bN,eJ]at cy;refine ⟨⟨fn,aL,cy.1,cy.2⟩,fun φ ι w aO eh e9 fA fk=> ?_⟩;obtain ⟨v1,dU,L,ah,v2,c6,aa,aJ,hm⟩:=fA;simp only[K.relT]at hm;subst hm aa;have gC:v1=.string ⟨⟨a⟩⟩:=cA.str.1 ah;have mO:v2=.int .u8 b:=cA.int.1 aJ;subst gC mO;obtain rfl:aO= #[.string ⟨⟨a⟩⟩,.int .u8 b]:=by cases aO;simp at L;simp[L]
 refine (h ⟨⟨a⟩⟩ b w).mono ?_;rintro e ao ⟨rfl,rfl⟩;exact ⟨_,φ,ι,rfl,eh,Step.refl _ _ _ _,ej.refl _ _,h3 (cA.int.2 rfl),λi u=>absurd (show i∈([]:List Nat) from u) (by simp)⟩
end
open Go.RowKit
abbrev lA:=List (Nat×(bz->DT (ed×bz)))
def GP:lA->Option Nat->Option (bz->DT (ed×bz))
 |_,none=>none
 |[],some _=>none
 |(j,g)::l,some i=>bif Nat.beq i j then some g else GP l (some i)
def gD [Env] (F:bk) (C:lA):Code->Nat->bz->DT (ed×bz)
 | .seq a b,k,st=>(gD F C a k st).bind λ(e,a8)=>match e with
  | .nrm=>match GP C (pR b) with
   |some g=>g a8
   |none=>gD F C b k a8
  |e=>.leaf (e,a8)
 | .cond c a b,k,st=>match mo (h2 st.regs c) with
  |some t=>match c with
   | .tmp I=>.br t (gD F C a k ⟨refine st.regs I true,st.heap⟩) (gD F C b k ⟨refine st.regs I false,st.heap⟩)
   |_=>.br t (gD F C a k st) (gD F C b k st)
  |none=>.fail
 | .block id c,_,st=>(gD F C c id st).bind λ(e,a8)=>match e with
  | .exit i=>bif Nat.beq i id then .leaf (.nrm,a8) else .leaf (.exit i,a8)
  |e=>.leaf (e,a8)
 | .scope c,k,st=>gD F C c k st
 |c,k,st=>gb F c k st
def jO (C:lA):Code->List ((bz->DT (ed×bz))×Code)
 | .seq a b=>jO C a++(match GP C (pR b) with |some g=>[(g,b)] |none=>jO C b)
 | .cond _ a b=>jO C a++jO C b
 | .block _ c=>jO C c
 | .scope c=>jO C c
 |_=>[]
def qI (i:Nat):Code->Option Code
 | .seq a b=>match qI i a with
  |some c=>some c
  |none=>match pR b with
   |some j=>bif Nat.beq i j then some b else qI i b
   |none=>qI i b
 | .cond _ a b=>match qI i a with |some c=>some c |none=>qI i b
 | .block _ c=>qI i c
 | .loop c=>qI i c
 | .scope c=>qI i c
 |_=>none
def eR (c:Code) (i:Nat):Code:=(qI i c).getD .skip
def jG [Env] (P:cq) (F:bk) (n:Nat) (g:bz->DT (ed×bz)) (c:Code):Prop:=
 ∀(nt:js) (st:bz) (e:ed) (a8:bz) (φ:bJ) (ι:Nat->az) (w:bh) (a:Act) (bD:Exit->Act->bh->Prop),nt.n=n->iD nt c->(g st).val=some (e,a8)->ds φ ι w nt st a->gM F.m st.heap->
  (∀bn ao av aH,ds av aH ao nt a8 bn->Step φ ι w st.heap av aH ao a8.heap->ic F.m ι st.heap aH a8.heap->bD (kY e) bn ao)->c.wpIn (eX nt.ro) 0 P bD a w
def A1 [Env] (P:cq) (F:bk) (nt:Nat):List ((bz->DT (ed×bz))×Code)->Prop
 |[]=>True
 |q::l=>jG P F nt q.1 q.2/\A1 P F nt l
theorem Ox [Env] {P:cq} {F:bk} {nt:Nat} {C:lA} {c:Code} {m:List ((bz->DT (ed×bz))×Code)} (hm:jO C c=m) (h:A1 P F nt m): ∀q∈jO C c,jG P F nt q.1 q.2:=by
 rw[hm];clear hm
 induction m with
 |nil=>intro q aD;cases aD
 |cons p l aQ=>
  intro q aD;rcases eO.1 aD with rfl |aD
  ·exact h.1
  ·exact aQ h.2 q aD
section
variable {P:cq} {nt:js} {F:bk} {C:lA}
theorem NZ [Env] (tab:cQ P F.cx) (c1:ca P F.Γ) (hm:P.follows .mixedOrders=true): ∀(c:Code) (k:Nat) (st:bz) (e:ed) (a8:bz) (φ:bJ) (ι:Nat->az) (w:bh) (a:Act) (bD:Exit->Act->bh->Prop),(gD F C c k st).val=some (e,a8)->
  (∀q∈et c k,hl P F nt.n q.1 q.2)->(∀q∈jO C c,jG P F nt.n q.1 q.2)->i8 nt.n c=true->jJ P F nt.n c->iD nt c->ds φ ι w nt st a->gM F.m st.heap->
  (∀bn ao av aH,ds av aH ao nt a8 bn->Step φ ι w st.heap av aH ao a8.heap->ic F.m ι st.heap aH a8.heap->bD (kY e) bn ao)->c.wpIn (eX nt.ro) 0 P bD a w:=by
 intro c
 induction c with
 |seq x y jj jk=>
  intro k st e a8 φ ι w a bD h ab dL aw cX ch cg lm c2;simp only[gD]at h;obtain ⟨⟨L,cn⟩,s,E⟩:=DT.val_bind_some h;simp only[i8,bN]at aw;refine wpIn_seq (jj k st L cn φ ι w a _ s (λq aD=>ab q (by simp[et,aD])) (λq aD=>dL q (by simp[jO,aD])) aw.1 cX.1 (ch.of (λh=>by simp[eT,h]) (λh=>by simp[gv,h])) cg lm λbn ao av aH cR sp bS=> ?_);cases L with
  |nrm=>
   simp only at E;cases bu:GP C (pR y) with
   |some g=>
    rw[bu]at E;exact dL (g,y) (by simp[jO,bu]) nt cn e a8 av aH ao bn bD rfl (ch.of (λh=>by simp[eT,h]) (λh=>by simp[gv,h])) E cR (bS.live lm) λa2 de ec ei kd pE m3=>c2 a2 de ec ei kd (sp.trans pE) (bS.trans m3)
   |none=>
    rw[bu]at E;exact jk k cn e a8 av aH ao bn bD E (λq aD=>ab q (by simp[et,aD])) (λq aD=>dL q (by simp[jO,bu,aD])) aw.2 cX.2 (ch.of (λh=>by simp[eT,h]) (λh=>by simp[gv,h])) cR (bS.live lm) λa2 de ec ei kd pE m3=>c2 a2 de ec ei kd (sp.trans pE) (bS.trans m3)
  |exit i=>
   simp only[DT.val,bH,cV]at E;obtain ⟨rfl,rfl⟩:=E;exact c2 bn ao av aH cR sp bS
  |ret=>
   simp only[DT.val,bH,cV]at E;obtain ⟨rfl,rfl⟩:=E;exact c2 bn ao av aH cR sp bS
 |cond c x y jj jk=>
  intro k st e a8 φ ι w a bD h ab dL aw cX ch cg lm c2;simp only[gD]at h;simp only[i8,bN]at aw;split at h
  ·rename_i t aT;have aZ:=Nl aT (cg.eval c).1;refine wpIn_cond aZ ?_;have key: ∀(gI:bz),ds φ ι w nt gI a->gI.heap=st.heap->(bif t then (gD F C x k gI).val else (gD F C y k gI).val)=some (e,a8)->(if t then x else y).wpIn (eX nt.ro) 0 P bD a w:=by
    intro gI jP bC h;rw[<-bC]at lm c2;cases t
    ·simp only[ax]at h;simp only[Bool.false_eq_true,if_false];exact jk k gI e a8 φ ι w a bD h (λq aD=>ab q (by simp[et,aD])) (λq aD=>dL q (by simp[jO,aD])) aw.2 cX.2 (ch.of (λh=>by simp[eT,h]) (λh=>by simp[gv,h])) jP lm c2
    ·simp only[ak]at h;simp only[if_true];exact jj k gI e a8 φ ι w a bD h (λq aD=>ab q (by simp[et,aD])) (λq aD=>dL q (by simp[jO,aD])) aw.1 cX.1 (ch.of (λh=>by simp[eT,h]) (λh=>by simp[gv,h])) jP lm c2
   split at h
   ·rename_i I;have bx:st.regs.get I=some (.dat .bool t):=by
     simp only[h2]at aT;cases q3:Nat.beq I dE with
     |true=>simp[q3,mo]at aT
     |false=>
     simp only[q3,ax]at aT;cases al:st.regs.get I with
     |none=>rw[al]at aT;simp[mo]at aT
     |some r=>
      rw[al]at aT;have:=zZ (R:=st.regs) (I:=I) (b:=t) (by rw[al];exact aT);rw[al]at this;exact this
    have jP:ds φ ι w nt ⟨refine st.regs I t,st.heap⟩ a:=cg.regs_eq (tB bx);refine key ⟨refine st.regs I t,st.heap⟩ jP rfl ?_;cases t
    ·simp only[DT.val,ax]at h ⊢;exact h
    ·simp only[DT.val,ak]at h ⊢;exact h
   ·exact key st cg rfl (by simpa only[DT.val] using h)
  ·simp[DT.val]at h
 |block id c aQ=>
  intro k st e a8 φ ι w a bD h ab dL aw cX ch cg lm c2;simp only[gD]at h;obtain ⟨⟨L,cn⟩,s,E⟩:=DT.val_bind_some h;refine wpIn_block (aQ id st L cn φ ι w a _ s (λq aD=>ab q (by simpa [et] using aD)) (λq aD=>dL q (by simpa [jO] using aD)) aw cX (ch.of (λh=>by simpa [eT] using h) (λh=>by simpa [gv] using h)) cg lm λbn ao av aH cR sp bS=> ?_);cases L with
  |nrm=>
   simp only[DT.val,bH,cV]at E;obtain ⟨rfl,rfl⟩:=E;exact c2 bn ao av aH cR sp bS
  |exit i=>
   simp only at E;cases J:Nat.beq i id
   ·simp only[J,ax,DT.val,bH,cV]at E;obtain ⟨rfl,rfl⟩:=E;have cC: ¬i=id:=λh=>by subst h;simp at J
    simp only[kY,Exit.inBlock,if_neg cC];exact c2 bn ao av aH cR sp bS
   ·simp only[J,ak,DT.val,bH,cV]at E;obtain ⟨rfl,rfl⟩:=E;have:i=id:=by simpa using J
    simp only[kY,Exit.inBlock,if_pos this];exact c2 bn ao av aH cR sp bS
  |ret=>
   simp only[DT.val,bH,cV]at E;obtain ⟨rfl,rfl⟩:=E;exact c2 bn ao av aH cR sp bS
 |scope c aQ=>
  intro k st e a8 φ ι w a bD h ab dL aw cX ch cg lm c2;simp only[gD]at h;refine aam (aQ k st e a8 φ ι w a _ h (λq aD=>ab q (by simpa [et] using aD)) (λq aD=>dL q (by simpa [jO] using aD)) aw cX (ch.of (λh=>by simpa [eT] using h) (λh=>by simpa [gv] using h)) cg lm λbn ao av aH cR sp bS=> ?_);have:=c2 bn ao av aH cR sp bS;cases e<;>exact this
 |_=>
  intro k st e a8 φ ι w a bD h ab dL aw cX ch cg lm c2;exact nJ tab c1 hm _ k st e a8 φ ι w a bD (by simpa only[gD] using h) ab aw cX ch cg lm c2
theorem lQ [Env] {n:Nat} (tab:cQ P F.cx) (c1:ca P F.Γ) (hm:P.follows .mixedOrders=true) {ar:bL} {c:Code} {k:Nat} {f:ar.S.ty.den->Option ar.Out} {l:List (Nat×Code)} {m:List ((bz->DT (ed×bz))×Code)} (ab:et c k=l) (dO:oP P F n l) (dL:jO C c=m) (q1:A1 P F n m) (aw:i8 n c=true) (cX:jJ P F n c)
  (aL: ∀d,((gD F C c k (ar.S.enc d)).bind λ(e,st)=>ar.out F.m e st).val=f d):jG P F n (ar.go f F.m) c:=by
 intro nt st e a8 φ ι w a bD aR ch h cg lm c2;subst aR;unfold bL.go at h;obtain ⟨d,L,aa⟩:=DT.val_bind_some h;obtain ⟨dy,fg,bb,aU,ck,ep,hz⟩:=lH L cg lm;obtain ⟨o,W,he⟩: ∃o,f d=some o/\(e,a8)=ar.fin o:=by
  cases j4:f d with
  |none=>simp[j4,DT.val]at aa
  |some o=>
   refine ⟨o,rfl,?_⟩;cases o with
   |inl x=>simp only[j4,DT.val,bH]at aa;exact aa.symm
   |inr y=>simp only[j4,DT.val,bH]at aa;exact aa.symm
 have J:=(aL d).trans W;obtain ⟨⟨a1,yX⟩,s,E⟩:=DT.val_bind_some J;refine NZ tab c1 hm c k _ a1 yX dy fg w a _ s (uv ab dO) (Ox dL q1) aw cX ch bb (ck.live lm) λbn ao av aH cR sp bS=> ?_
 obtain ⟨me,ec,ei,dU,c6,fm⟩:=bL.out_sound E cR (bS.live (ck.live lm));have sS:e=(ar.fin o).1/\a8=(ar.fin o).2:=by rw[<-he];exact ⟨rfl,rfl⟩
 rw[me];have:=c2 bn ao ec ei;rw[sS.1,sS.2]at this;exact this dU ((aU.trans sp).trans c6) ((ck.trans bS).trans fm)
end
open Go.RowKit
def so [Env] (F:bk) (C:lA) (fn:Func) (S Z:Shape) (d:S.ty.den):DT Z.ty.den:=
 (gD F C (fn.body.getD .skip) 0 (S.enc d)).bind λ(e,st)=>match e with
  | .exit _=>.fail
  |_=>((lX F.cx st.regs 0 fn.results.toList).run st.heap st.heap.length .none).bind λ(R,h,_,_)=>Z.take F.m ⟨R,h⟩
def bL.bodyK [Env] (ar:bL) (F:bk) (C:lA) (c:Code) (k:Nat) (d:ar.S.ty.den):DT (ar.S.ty.den⊕ar.Out):=
 (gD F C c k (ar.S.enc d)).bind λ(e,st)=>match e with
  | .nrm=>(ar.S.take F.m st).bind λd=>.leaf (.inl d)
  |e=>(ar.out F.m e st).bind λo=>.leaf (.inr o)
section
variable {P:cq} {cx:cd} {Γ:hG} {φ:bJ} {ι:Nat->az} {w:bh} {nt:js} {st a8:bz} {a:Act} {H:List aF}
theorem apU [Env] {F:bk} {C:lA} (tab:cQ P F.cx) (c1:ca P F.Γ) (hm:P.follows .mixedOrders=true) {ar:bL} {c:Code} {k:Nat} {f:ar.S.ty.den->Option ar.Out} (nG:F.Λ k=ar.go f F.m) {n:Nat} (dO: ∀q∈et c k,hl P F n q.1 q.2) (q1: ∀q∈jO C c,jG P F n q.1 q.2) (aw:i8 n c=true) (cX:jJ P F n c)
  (aL: ∀d o,f d=some o-> ∃n,eI (λd=>(ar.bodyK F C c k d).val) n d=some o):hl P F n k c:=by
 intro nt st e a8 φ ι w a bD aR ch h cg lm c2;subst aR;rw[nG]at h;unfold bL.go at h;obtain ⟨d,L,aa⟩:=DT.val_bind_some h;obtain ⟨dy,fg,bb,aU,ck,ep,hz⟩:=lH L cg lm;obtain ⟨o,W,he⟩: ∃o,f d=some o/\(e,a8)=ar.fin o:=by
  cases j4:f d with
  |none=>simp[j4,DT.val]at aa
  |some o=>
   refine ⟨o,rfl,?_⟩;cases o with
   |inl x=>simp only[j4,DT.val,bH]at aa;exact aa.symm
   |inr y=>simp only[j4,DT.val,bH]at aa;exact aa.symm
 obtain ⟨n,aR⟩:=aL d o W;refine wpIn_loop_rounds n ?_;have key: ∀n d φ ι w a,eI (λd=>(ar.bodyK F C c k d).val) n d=some o->ds φ ι w nt (ar.S.enc d) a->gM F.m (ar.S.enc d).heap->
   (∀bn ao av aH,ds av aH ao nt (ar.fin o).2 bn->Step φ ι w (ar.S.enc d).heap av aH ao (ar.fin o).2.heap->ic F.m ι (ar.S.enc d).heap aH (ar.fin o).2.heap->bD (kY (ar.fin o).1) bn ao)->Code.roundsIn (eX nt.ro) 0 P c bD n a w:=by
  intro n
  induction n with
  |zero=>intro d φ ι w a h;cases h
  |succ n aQ=>
   intro d φ ι w a h cg lm c2;simp only[eI]at h;rw[roundsIn_succ];cases J:(ar.bodyK F C c k d).val with
   |none=>simp[J]at h
   |some r=>
    simp only[J]at h;have h4:=J;unfold bL.bodyK at h4;obtain ⟨⟨L,cn⟩,s,E⟩:=DT.val_bind_some h4;refine NZ tab c1 hm c k _ L cn φ ι w a _ s dO q1 aw cX (ch.of (λh=>h) (λh=>h)) cg lm λbn ao av aH cR sp bS=> ?_
    by_cases mT:L=.nrm
    ·subst mT;obtain ⟨t,O,aC⟩:=DT.val_bind_some E;simp only[DT.val,bH]at aC;subst aC;simp only at h;obtain ⟨ec,ei,dU,c6,fm,lS,qh⟩:=lH O cR (bS.live lm);exact aQ t ec ei ao bn h dU (fm.live (bS.live lm)) λa2 de mB mA Dw SD R5=>c2 a2 de mB mA Dw ((sp.trans c6).trans SD) ((bS.trans fm).trans R5)
    ·rw[aby mT];have ba:((ar.out F.m L cn).bind λo=>DT.leaf (Sum.inr (α:=ar.S.ty.den) o)).val=some r:=by
      cases L with
      |nrm=>exact absurd rfl mT
      |exit i=>exact E
      |ret=>exact E
     obtain ⟨jE,O,aC⟩:=DT.val_bind_some ba;simp only[DT.val,bH]at aC;subst aC;simp only[bH]at h;subst h;obtain ⟨me,ec,ei,dU,c6,fm⟩:=bL.out_sound O cR (bS.live lm);rw[me];exact c2 bn ao ec ei dU (sp.trans c6) (bS.trans fm)
 have sS:e=(ar.fin o).1/\a8=(ar.fin o).2:=by rw[<-he];exact ⟨rfl,rfl⟩
 refine key n d dy fg w a aR bb (ck.live lm) λbn ao av aH cR sp bS=> ?_
 have:=c2 bn ao av aH;rw[sS.1,sS.2]at this;exact this cR (aU.trans sp) (ck.trans bS)
theorem arp [Env] {F:bk} {C:lA} (tab:cQ P F.cx) (c1:ca P F.Γ) (hm:P.follows .mixedOrders=true) {f:FuncId} {fn:Func} {c:Code} {S Z:Shape} (aL:P.funcs[f]? =some fn) (J:fn.body=some c) (cy:nn fn S Z=true) (dO: ∀q∈et c 0,hl P F fn.ntmps q.1 q.2) (q1: ∀q∈jO C c,jG P F fn.ntmps q.1 q.2) (cX:jJ P F fn.ntmps c)
  {args:List K} (fb:F.m=S.objs.length) {d:S.ty.den} {z:Z.ty.den} (ae:S.dec ⟨fQ 0 args,H⟩=some d) (e:(so F C fn S Z d).val=some z):kh P f args H (kf (Z.enc z).regs) (Z.enc z).heap:=by
 have gR:=Shape.dec_enc ae;simp only[nn,J,bN,eJ,dJ]at cy;obtain ⟨⟨⟨⟨⟨⟨ow,jL⟩,h6⟩,ik⟩,nB⟩,nC⟩,nD⟩:=cy;have h6:=gV h6;have ik:=gV ik;have iH:args.length=S.regs.length/\H.length=S.objs.length:=by
  unfold Shape.dec at ae;simp only at ae;cases aS:iV S.regs (fQ 0 args) with
  |none=>simp[aS]at ae
  |some x=>
   cases J:fR S.objs H with
   |none=>simp[aS,J]at ae
   |some y=>
    refine ⟨by rw[<-y2 _ _ _ aS,(oC args 0).2.1],?_⟩;have: ∀(d:List dX) (R:List aF) (l:List eD),fR d R=some l->R.length=d.length:=by
     intro d
     induction d with
     |nil=>intro R l h;cases R<;>simp[fR]at h ⊢
     |cons a d aQ=>
      intro R l h;cases R with
      |nil=>simp[fR]at h
      |cons b R=>
       simp only[fR]at h;split at h
       ·obtain ⟨b,J,-⟩:=h7.1 h;simp[aQ R b J]
       ·cases h
    exact this _ _ _ J
 unfold so at e;rw[J]at e;simp only[Option.getD_some]at e;obtain ⟨⟨L,cn⟩,s,E⟩:=DT.val_bind_some e;have O:L=.nrm\/L=.ret:=by
  cases L with
  |nrm=>exact .inl rfl
  |ret=>exact .inr rfl
  |exit i=>simp[DT.val]at E
 have aC:(((lX F.cx cn.regs 0 fn.results.toList).run cn.heap cn.heap.length .none).bind λ(R,h,_,_)=>Z.take F.m ⟨R,h⟩).val=some z:=by rcases O with rfl |rfl<;>exact E
 obtain ⟨⟨R,ba,mn,tv⟩,bF,dN⟩:=DT.val_bind_some aC;have j1:=HM.go_run _ _ _ _ _ _ _ _ bF;have kH:(Z.enc z).regs.map (·.1)=List.range' 0 fn.results.size:=by
  obtain ⟨⟨a8,bC,yA,pp⟩,bb,aU⟩:=DT.val_bind_some dN;simp only[DT.val_ofOpt]at aU;have ck:(Z.enc z).regs.map (·.1)=Z.regs.map (·.1):=by
   unfold Shape.dec at aU;cases aS:iV Z.regs a8.regs with
   |none=>simp[aS]at aU
   |some x=>
    cases J:fR Z.objs a8.heap with
    |none=>simp[aS,J]at aU
    |some y=>
     have:=rD _ _ x [] aS;rw[Shape.dec_enc (st:=a8) (by simp only[Shape.dec,aS,J]at aU ⊢;exact aU)];exact vU _ _ _ _ this
  rw[ck,nD]
 refine ⟨⟨fn,aL,nB,by rw[J];rfl⟩,?_⟩
 ·intro φ ι w aO eh e9 fA fk;refine xc aL J ?_;have eB:aO.size=args.length:=by
   have: ∀(l:List K) (aO:List az),K.relT φ ι w l aO->aO.length=l.length:=by
    intro l
    induction l with
    |nil=>intro aO h;simp only[K.relT]at h;simp[h]
    |cons r l aQ=>intro aO h;obtain ⟨v,m,rfl,-,h⟩:=h;simp[aQ m h]
   simpa using this _ _ fA
  have dT:aO.size<=fn.ntmps:=by rw[eB,iH.1];exact gV nC
  have lo:ds φ ι w ⟨fn.ntmps,w.heap.size,[],none,false⟩ (S.enc d) {tmps:=aO++Array.replicate (fn.ntmps-aO.size) undef,defers:=[]}:=by
   rw[gR];refine ⟨eh,λI r al=> ?_,by simp;omega,h6,nW (b7 _)⟩;obtain ⟨bb,aU,ck⟩:=oC args 0;obtain ⟨k,af,hk⟩:=m6 _ 0 I r (by rw[bb,aU]) al;have gF:I=k:=by omega
   subst gF;have bx:=ck I (I,r) hk;simp only at bx;obtain ⟨v,aZ,ji⟩:=tY fA bx;have eZ:aO[I]? =some v:=by simpa using aZ
   have lL:I<aO.size:=(kT.1 eZ).1;have:(aO++Array.replicate (fn.ntmps-aO.size) undef).getD I undef=v:=by rw[iX,Array.getElem?_append_left lL,eZ];rfl
   rw[iK (by omega),this];exact ⟨ji,λi u=>fk i (tV bx i u)⟩
  have ph:(S.enc d).heap=H:=by rw[gR]
  have jC:gM F.m (S.enc d).heap:=by rw[ph,fb,<-iH.2];exact λo W=>e9 o W
  refine NZ tab c1 hm c 0 _ L cn φ ι w _ _ s dO q1 ow cX (iD.fn jL) lo jC λbn ao av aH cR sp bS=> ?_
  rw[ph]at sp;refine Ef O cR sp λao cR sp=> ?_
  have lj:=bS.live jC;obtain ⟨bj,bG,us,dm,cJ,fW,hU⟩:=vW tab fn.results.toList 0 R cn.heap _ ba mn j1 cR.heap cR.regs;have ko:R.length=us.length:=by have:=congrArg List.length fW;simpa [cJ] using this
  have kd:ds av aH ao ⟨us.toArray.size,0,[],none,false⟩ ⟨R,ba⟩ {tmps:=us.toArray,defers:=[]}:=by
   rw[bj];refine ⟨cR.heap,λI r al=> ?_,rfl,by rw[List.size_toArray,cJ];simpa using ik,nW (Nat.zero_le _)⟩;obtain ⟨k,af,hk⟩:=m6 R 0 I r (by rw[fW];congr 1;omega) al;have gF:I=k:=by omega
   subst gF;obtain ⟨v,aZ,ji,gG⟩:=hU I (I,r) hk;have:us.toArray.getD I undef=v:=by simp[iX,aZ]
   have lL:I<us.length:=(iC.1 aZ).1;have Rg:fn.results.toList.length=fn.results.size:=by simp
   rw[iK (by omega)];simp only[this];exact ⟨ji,gG⟩
  obtain ⟨ec,ei,dU,c6,fm,lS,qh⟩:=lH dN kd (by rw[bj];exact lj);have hP:(Z.enc z).regs.length=us.toArray.size:=by have:=congrArg List.length kH;simp only[List.length_map,List.length_range']at this;rw[this];simp[cJ]
  obtain ⟨ah,aJ⟩:=uL (aO:=us.toArray) (R:=(Z.enc z).regs) (by rw[kH];congr 1;simpa [cJ] using hP.symm) hP (wS (a:={tmps:=us.toArray,defers:=[]}) (by rw[kH];congr 1;simpa [cJ] using hP.symm) (by rw[hP,List.size_toArray,cJ];simpa using ik) dU.regs);have mi:=vX dm;refine ⟨_,mi,_,ec,ei,rfl,dU.heap,?_,?_,ah,aJ⟩
  ·rw[bj]at c6;exact sp.trans c6
  ·rw[ph]at bS;rw[bj]at fm;have iJ:=bS.trans fm;refine ⟨λo W=> ?_,λo W=> ?_⟩
   ·have bd:o<F.m:=by rw[fb,<-iH.2];exact gB W
    exact (iJ o bd W).1
   ·have bd:o<F.m:=by rw[fb,<-iH.2];exact gB W
    exact (iJ o bd W).2
end
theorem aqV [Env] {P:cq} {F:bk} {C:lA} {nt:Nat} (tab:cQ P F.cx) (c1:ca P F.Γ) (hm:P.follows .mixedOrders=true) {ar:bL} {c:Code} {k:Nat} {b:ar.S.ty.den->Option (ar.S.ty.den⊕ar.Out)} {f:ar.S.ty.den->Option ar.Out} (QO: ∀d,f d=b4 b d) (nG:F.Λ k=ar.go f F.m)
  {l:List (Nat×Code)} {m:List ((bz->DT (ed×bz))×Code)} (iU:et c k=l) (dO:oP P F nt l) (vf:jO C c=m) (q1:A1 P F nt m) (aw:i8 nt c=true) (cX:jJ P F nt c) (J: ∀d,(ar.bodyK F C c k d).val=b d):hl P F nt k c:=by
 refine apU (C:=C) tab c1 hm nG (uv iU dO) (Ox vf q1) aw cX λd o h=> ?_
 rw[QO]at h;obtain ⟨n,aR⟩:=NJ h;exact ⟨n,by rw[show (λd=>(ar.bodyK F C c k d).val)=b from funext J];exact aR⟩
theorem Aa [Env] {P:cq} {F:bk} {C:lA} (tab:cQ P F.cx) (c1:ca P F.Γ) (hm:P.follows .mixedOrders=true) {cM:aV} {fn:Func} (aL:P.funcs[cM.f]? =some fn) (J:fn.body=some (bX fn)) (cy:nn fn cM.S cM.Z=true)
  {l:List (Nat×Code)} {m:List ((bz->DT (ed×bz))×Code)} (iU:et (bX fn) 0=l) (dO:oP P F fn.ntmps l) (vf:jO C (bX fn)=m) (q1:A1 P F fn.ntmps m) (cX:jJ P F fn.ntmps (bX fn)) (fb:F.m=cM.S.objs.length) (bu: ∀d,(so F C fn cM.S cM.Z d).val=cM.g d):cF P cM:=
 λargs H d z ae bI=>arp tab c1 hm aL J cy (uv iU dO) (Ox vf q1) cX fb ae ((bu d).trans bI)
end Go.X
