import Derived.Test.YtmmmpanpbphkdaaGreatDoorXB
import Derived.ProofKit
import Derived.OpenShut
import Derived.DataElems
import Derived.SizedLaws
import Derived.WalkKit
import Derived.ShutString
import Derived.Laws.StructEq
import Derived.Lib.Strings
import Derived.Lib.Slices
import Derived.Lib.Walk
import Derived.Lib.Bytealg
set_option linter.unusedVariables false
set_option linter.unusedSimpArgs false
namespace Go.X
open Go.RowKit
def e1 (p s:dk):dk:=⟨s.rd++p.rd,s.fz++p.fz,s.wr++p.wr⟩
theorem ad6 {α:Type} (x:HM α): ∀(h:List aH) (n:Nat) (p:dk),(x.run h n p).val=(x.run h n .none).val.map λr=>(r.1,r.2.1,r.2.2.1,e1 p r.2.2.2):=by
 induction x with
 |ret a=>intro h n p;simp[HM.run,DT.val,e1,dk.none]
 |fail=>intro h n p;simp[HM.run,DT.val]
 |br b x y jw jx=>intro h n p;cases b<;>simp[HM.run,DT.val]<;>first |exact jw h n p |exact jx h n p
 |opt o k aO=>intro h n p;cases o<;>simp[HM.run,DT.val];exact aO _ h n p
 |alt o k l pq vK=>
  intro h n p;cases o with
  |none=>simp[HM.run,DT.val]
  |some r=>cases r<;>simp[HM.run,DT.val]<;>first |exact pq _ h n p |exact vK _ h n p
 |rdc o k aO=>
  intro h n p;simp only[HM.run];rw[aO _ h n ⟨o::p.rd,p.fz,p.wr⟩,aO _ h n ⟨o::dk.none.rd,dk.none.fz,dk.none.wr⟩,Option.map_map];congr 1;funext r;simp[e1,dk.none]
 |frz o k aO=>
  intro h n p;simp only[HM.run];rw[aO _ n ⟨p.rd,o::p.fz,p.wr⟩,aO _ n ⟨dk.none.rd,o::dk.none.fz,dk.none.wr⟩,Option.map_map];congr 1;funext r;simp[e1,dk.none]
 |rdw o k aO=>
  intro h n p;simp only[HM.run];rw[aO _ h n ⟨p.rd,p.fz,o::p.wr⟩,aO _ h n ⟨dk.none.rd,dk.none.fz,o::dk.none.wr⟩,Option.map_map];congr 1;funext r;simp[e1,dk.none]
 |wr o b k aO=>
  intro h n p;simp only[HM.run];rw[aO _ n ⟨p.rd,p.fz,o::p.wr⟩,aO _ n ⟨dk.none.rd,dk.none.fz,o::dk.none.wr⟩,Option.map_map];congr 1;funext r;simp[e1,dk.none]
 |nw b k aO=>
  intro h n p;simp only[HM.run];rw[aO _ _ _ ⟨p.rd,p.fz,n::p.wr⟩,aO _ _ _ ⟨dk.none.rd,dk.none.fz,n::dk.none.wr⟩,Option.map_map];congr 1;funext r;simp[e1,dk.none]
 |nxt k aO=>intro h n p;simp only[HM.run];exact aO _ h n p
theorem A2 {α:Type} {x:HM α} {h:List aH} {n:Nat} {p:dk} {a:α} {cy:List aH} {aE:Nat} {s:dk} (e:(x.run h n p).val=some (a,cy,aE,s)): ∃bq,(x.run h n .none).val=some (a,cy,aE,bq)/\s=e1 p bq:=by rw[ad6]at e;obtain ⟨⟨dr,q,cG,bq⟩,M,V⟩:=ib.1 e;simp only[c0]at V;obtain ⟨rfl,rfl,rfl,rfl⟩:=V;exact ⟨bq,M,rfl⟩
theorem Bf {α:Type} {x:HM α} {h:List aH} {n:Nat} {p:dk} {a:α} {cy:List aH} {aE:Nat} {bq:dk} (e:(x.run h n .none).val=some (a,cy,aE,bq)):(x.run h n p).val=some (a,cy,aE,e1 p bq):=by rw[ad6,e];rfl
structure r3 (ay:Nat) (s:dk):Prop where
 rd: ∀o∈s.rd,o<ay
 fz: ∀o∈s.fz,o<ay
 wr: ∀o∈s.wr,o<ay
theorem r3.of {ay:Nat} {s:dk} (h:FF ay s=true):r3 ay s:=by simp only[FF,bQ,fD]at h;exact ⟨λo ab=>by simpa using h.1.1 o ab,λo ab=>by simpa using h.1.2 o ab,λo ab=>by simpa using h.2 o ab⟩
theorem r3.tail {ay:Nat} {p s:dk} (h:r3 ay (e1 p s)):r3 ay s:=⟨λo ab=>h.rd o (dn.2 (.inl ab)),λo ab=>h.fz o (dn.2 (.inl ab)),λo ab=>h.wr o (dn.2 (.inl ab))⟩
def mW (b:Prop) [Decidable b] (x:aH):aH:=if b then x.freeze else x
theorem ap9 (b:aH):b.freeze.freeze=b.freeze:=by cases b<;>rfl
theorem NV (b:aH):b.freeze.mask=b.mask:=by cases b<;>rfl
theorem abY {p:Prop} [Decidable p] (b:aH):(mW p b).mask=b.mask:=by unfold mW;split<;>simp[NV]
structure Left (h:List aH) (s:dk) (cy:List aH):Prop where
 len:cy.length=h.length
 other: ∀o,o∉s.wr->aG cy o=mW (o∈s.fz) (aG h o)
theorem Gw {α:Type} (x:HM α): ∀(h G:List aH) (n:Nat) (a:α) (cy:List aH) (aE:Nat) (s:dk),(x.run h n .none).val=some (a,cy,aE,s)->r3 h.length s->G.length=h.length->
  (∀o∈s.rd,(aG h o).mask=(aG G o).mask)->(∀o∈s.wr,aG h o=aG G o)->
  ∃il,(x.run G n .none).val=some (a,il,aE,s)/\Left h s cy/\Left G s il/\ ∀o∈s.wr,aG il o=aG cy o:=by
 induction x with
 |ret a=>
  intro h G n b cy aE s e lt ad ar hw;simp only[HM.run,DT.val,bM,c0]at e;obtain ⟨rfl,rfl,rfl,rfl⟩:=e;exact ⟨G,rfl,⟨rfl,λo _=>by simp[mW,dk.none]⟩,⟨rfl,λo _=>by simp[mW,dk.none]⟩,λo ab=>by simp[dk.none]at ab⟩
 |fail=>intro h G n b cy aE s e;simp[HM.run,DT.val]at e
 |br b x y jw jx=>
  intro h G n a cy aE s e lt ad ar hw;cases b
  ·exact jx h G n a cy aE s e lt ad ar hw
  ·exact jw h G n a cy aE s e lt ad ar hw
 |opt o k aO=>
  intro h G n a cy aE s e lt ad ar hw;cases o with
  |none=>simp[HM.run,DT.val]at e
  |some r=>exact aO r h G n a cy aE s e lt ad ar hw
 |alt o k l pq vK=>
  intro h G n a cy aE s e lt ad ar hw;cases o with
  |none=>simp[HM.run,DT.val]at e
  |some r=>cases r with
   |inl r=>exact pq r h G n a cy aE s e lt ad ar hw
   |inr r=>exact vK r h G n a cy aE s e lt ad ar hw
 |rdc o k aO=>
  intro h G n a cy aE s e lt ad ar hw;simp only[HM.run]at e;obtain ⟨bq,M,rfl⟩:=A2 e;have ab:(aG h o).mask=(aG G o).mask:=ar o (by simp[e1]);obtain ⟨il,ah,aS,bV,dE⟩:=aO _ h G n a cy aE bq M lt.tail ad (λi E=>ar i (by simp[e1,E])) (λi E=>hw i (by simp[e1,E]));refine ⟨il,?_,⟨aS.len,λi E=> ?_⟩,⟨bV.len,λi E=> ?_⟩,λi E=>dE i (by simpa [e1,dk.none] using E)⟩
  ·simp only[HM.run];rw[<-ab];exact Bf ah
  ·have:=aS.other i (by simpa [e1,dk.none] using E);simpa [e1,dk.none] using this
  ·have:=bV.other i (by simpa [e1,dk.none] using E);simpa [e1,dk.none] using this
 |frz o k aO=>
  intro h G n a cy aE s e lt ad ar hw;simp only[HM.run]at e;obtain ⟨bq,M,rfl⟩:=A2 e;have C0:o<h.length:=lt.fz o (by simp[e1]);have dH:=ik h o (aG h o).freeze C0;have ds:=ik G o (aG G o).freeze u;have g1:=λi=>gO h o (aG h o).freeze i u
  have g2:=λi=>gO G o (aG G o).freeze i u
  obtain ⟨il,ah,aS,bV,dE⟩:=aO _ (cc G o (aG G o).freeze) n a cy aE bq M (by rw[dH];exact lt.tail) u (λi E=>by
    have:=ar i (by simp[e1,E]);rw[g1,g2];split
    ·rename_i h;subst h;rw[NV,NV];exact this
    ·exact this) (λi E=>by
    have:=hw i (by simp[e1,E]);rw[g1,g2];split
    ·rename_i h;subst h;rw[this]
    ·exact this)
  have fin: ∀{x qx:List aH},(∀i,aG (cc x o (aG x o).freeze) i=if i=o then (aG x o).freeze else aG x i)->(∀i,i∉bq.wr->aG qx i=mW (i∈bq.fz) (aG (cc x o (aG x o).freeze) i))->
    ∀i,i∉(e1 ⟨dk.none.rd,o::dk.none.fz,dk.none.wr⟩ bq).wr->aG qx i=mW (i∈(e1 ⟨dk.none.rd,o::dk.none.fz,dk.none.wr⟩ bq).fz) (aG x i):=by
   intro x qx g r i E;rw[r i (by simpa [e1,dk.none] using E),g];by_cases jt:i=o
   ·subst jt;simp only[if_true,e1,dk.none,mW];simp[ap9]
   ·simp[e1,dk.none,mW,jt]
  refine ⟨il,?_,⟨aS.len.trans dH,fin g1 aS.other⟩,⟨bV.len.trans ds,fin g2 bV.other⟩,λi E=>dE i (by simpa [e1,dk.none] using E)⟩;simp only[HM.run];exact Bf ah
 |rdw o k aO=>
  intro h G n a cy aE s e lt ad ar hw;simp only[HM.run]at e;obtain ⟨bq,M,rfl⟩:=A2 e;have ab:aG h o=aG G o:=hw o (by simp[e1]);obtain ⟨il,ah,aS,bV,dE⟩:=aO _ h G n a cy aE bq M lt.tail ad (λi E=>ar i (by simp[e1,E])) (λi E=>hw i (by simp[e1,E]));refine ⟨il,?_,⟨aS.len,λi E=> ?_⟩,⟨bV.len,λi E=> ?_⟩,λi E=> ?_⟩
  ·simp only[HM.run];rw[<-ab];exact Bf ah
  ·simp only[e1,dk.none,dn,fe,List.not_mem_nil,or_false,not_or]at E;have:=aS.other i E.1;simpa [e1,dk.none] using this
  ·simp only[e1,dk.none,dn,fe,List.not_mem_nil,or_false,not_or]at E;have:=bV.other i E.1;simpa [e1,dk.none] using this
  ·by_cases hc:i∈bq.wr
   ·exact dE i hc
   ·rw[bV.other i hc,aS.other i hc,hw i E]
 |wr o b k aO=>
  intro h G n a cy aE s e lt ad ar hw;simp only[HM.run]at e;obtain ⟨bq,M,rfl⟩:=A2 e;have C0:o<h.length:=lt.wr o (by simp[e1]);have dH:=ik h o b C0;have ds:=ik G o b u;have g1:=λi=>gO h o b i u
  have g2:=λi=>gO G o b i u
  obtain ⟨il,ah,aS,bV,dE⟩:=aO _ (cc G o b) n a cy aE bq M (by rw[dH];exact lt.tail) u (λi E=>by
    have:=ar i (by simp[e1,E]);rw[g1,g2];split
    ·rfl
    ·exact this) (λi E=>by
    have:=hw i (by simp[e1,E]);rw[g1,g2];split
    ·rfl
    ·exact this)
  refine ⟨il,?_,⟨aS.len.trans dH,λi E=> ?_⟩,⟨bV.len.trans ds,λi E=> ?_⟩,λi E=> ?_⟩
  ·simp only[HM.run];exact Bf ah
  ·simp only[e1,dk.none,dn,fe,List.not_mem_nil,or_false,not_or]at E;have:=aS.other i E.1;rw[g1,if_neg E.2]at this;simpa [e1,dk.none] using this
  ·simp only[e1,dk.none,dn,fe,List.not_mem_nil,or_false,not_or]at E;have:=bV.other i E.1;rw[g2,if_neg E.2]at this;simpa [e1,dk.none] using this
  ·by_cases hc:i∈bq.wr
   ·exact dE i hc
   ·rw[bV.other i hc,aS.other i hc,g1,g2];split
    ·rfl
    ·rw[hw i E]
 |nw b k aO=>
  intro h G n a cy aE s e lt ad ar hw;simp only[HM.run]at e;obtain ⟨bq,M,rfl⟩:=A2 e;have C0:n<h.length:=lt.wr n (by simp[e1]);have dH:=ik h n b C0;have ds:=ik G n b u;have g1:=λi=>gO h n b i u
  have g2:=λi=>gO G n b i u
  obtain ⟨il,ah,aS,bV,dE⟩:=aO n _ (cc G n b) (n+1) a cy aE bq M (by rw[dH];exact lt.tail) u (λi E=>by
    have:=ar i (by simp[e1,E]);rw[g1,g2];split
    ·rfl
    ·exact this) (λi E=>by
    have:=hw i (by simp[e1,E]);rw[g1,g2];split
    ·rfl
    ·exact this)
  refine ⟨il,?_,⟨aS.len.trans dH,λi E=> ?_⟩,⟨bV.len.trans ds,λi E=> ?_⟩,λi E=> ?_⟩
  ·simp only[HM.run];exact Bf ah
  ·simp only[e1,dk.none,dn,fe,List.not_mem_nil,or_false,not_or]at E;have:=aS.other i E.1;rw[g1,if_neg E.2]at this;simpa [e1,dk.none] using this
  ·simp only[e1,dk.none,dn,fe,List.not_mem_nil,or_false,not_or]at E;have:=bV.other i E.1;rw[g2,if_neg E.2]at this;simpa [e1,dk.none] using this
  ·by_cases hc:i∈bq.wr
   ·exact dE i hc
   ·rw[bV.other i hc,aS.other i hc,g1,g2];split
    ·rfl
    ·rw[hw i E]
 |nxt k aO=>
  intro h G n a cy aE s e lt ad ar hw;exact aO n h G n a cy aE s e lt ad ar hw
open Go.RowKit
section
variable {P:cA} {cx:cm} {Γ:hN} {ops:Array Oper}
theorem aa6 [Env] {o:Oper} {db p0:Operand->K} (h: ∀x∈o.op.operands.toList,db x=p0 x):nv cx Γ o db=nv cx Γ o p0:=by
 obtain ⟨dst,op,ty,pos,after,guard⟩:=o;have mp: ∀ps:List (Nat×Operand),(∀x∈ps.map (·.2),db x=p0 x)->(ps.map λp=>(p.1,db p.2))=ps.map λp=>(p.1,p0 p.2):=λps aT=>
  List.map_congr_left λp hm=>by rw[aT p.2 (List.mem_map.2 ⟨p,hm,rfl⟩)]
 have ml: ∀ps:List Operand,(∀x∈ps,db x=p0 x)->ps.map db=ps.map p0:=λps aT=>List.map_congr_left aT
 have SN: ∀ps:Option Operand,(∀x∈ps.toArray,db x=p0 x)->ps.map db=ps.map p0:=λps aT=>by
  cases ps with
  |none=>rfl
  |some x=>simp[aT x aU]
 cases op<;>simp only[Op.operands]at h<;>simp only[nv]
 case move x=>rw[h x aU]
 case assign x=>rw[h x aU]
 case pick c a b=>rw[h c aU,h a aU,h b aU]
 case box T x=>rw[h x aU]
 case build T ps=>rw[mp ps.toList (λx an=>h x (by simpa using an))]
 case buildSlice T m ps=>rw[mp ps.toList (λx an=>h x (by simpa using an))]
 case load T x=>rw[h x aU]
 case store T x y=>rw[h x aU,h y aU]
 case nilCheck x=>rw[h x aU]
 case binOp b T x y z=>rw[h x aU,h y aU]
 case unOp b T x=>rw[h x aU]
 case convert S T x=>rw[h x aU]
 case makeInterface T x=>rw[h x aU]
 case makeFunc f l m=>
  cases f
  case func f=>simp only;rw[ml l.toList (λx an=>h x (by simp;exact .inl (by simpa using an))),ml m.toList (λx an=>h x (by simp;exact .inr (by simpa using an)))]
  all_goals rfl
 case makeSlice T x y=>rw[h x aU,h y aU]
 case slice T x l m k=>
  rw[h x aU,SN l (λy bu=>h y (by simp at bu ⊢;simp[bu])),SN m (λy bu=>h y (by simp at bu ⊢;simp[bu])),SN k (λy bu=>h y (by simp at bu ⊢;simp[bu]))]
 case fieldAddr T x f=>rw[h x aU]
 case field T x f=>rw[h x aU]
 case indexAddr T x y=>rw[h x aU,h y aU]
 case index T x y=>rw[h x aU,h y aU]
 case extract x j=>rw[h x aU]
 case range T x=>rw[h x aU]
 case next x b=>rw[h x aU]
 case call c=>
  have q:c.args.toList.map db=c.args.toList.map p0:=ml _ λx an=>h x (by simp[Call.operands];exact .inr (by simpa using an))
  rw[q];cases au:c.callee with
  |builtin b=>rfl
  |value f=>simp only;rw[h f (by simp[Call.operands,au])]
  |invoke r m=>simp only;rw[h r (by simp[Call.operands,au])]
def uS (ops:Array Oper) (R:bS) (o:Oper):Option Bool:=match o.guard with
 |none=>some true
 |some (j,want)=>match (ops[j]?).bind (·.dst) with
  |some I=>match (R.get I).bind mB with
   |some b=>some (Ax b want)
   |none=>match R.get I with
    |some (.tup [])=>some false
    |_=>none
  |none=>none
def qP [Env] (cx:cm) (Γ:hN) (o:Oper) (R:bS) (b:Bool):HM K:=bif b then nv cx Γ o (h2 R) else .ret (.tup [])
theorem OL [Env] {o:Oper} {R eT:bS} (h: ∀I∈rX ops o,R.get I=eT.get I):uS ops R o=uS ops eT o/\ ∀b,qP cx Γ o R b=qP cx Γ o eT b:=by
 constructor
 ·unfold uS;cases bB:o.guard with
  |none=>rfl
  |some Dk=>
   obtain ⟨j,want⟩:=Dk;simp only;cases al:(ops[j]?).bind (·.dst) with
   |none=>rfl
   |some I=>
    simp only;rw[h I (by simp[rX,Oper.looksAt,bB,al])]
 ·intro b;unfold qP;rw[aa6 (db:=h2 R) (p0:=h2 eT)];intro x an;cases x with
  |tmp t=>simp only[h2];rw[h t (by simp only[rX,Oper.looksAt,dn,List.mem_filterMap];exact .inl ⟨.tmp t,an,rfl⟩)]
  |const v=>rfl
  |global g=>rfl
  |func f=>rfl
theorem wD (R:bS) (I:Option Tmp) (r:K) (e:Nat):(l1 R I r).get e=if I=some e then some r else R.get e:=by
 cases I with
 |none=>simp[l1]
 |some I=>
  simp only[l1,bS.get_put,bM];by_cases h:e=I
  ·subst h;simp
  ·rw[if_neg h,if_neg (λcy=>h cy.symm)]
theorem Ga [Env] {o:Oper} {st cj:bX} {nx n:Nat} {p:dk}:(uO cx Γ o st nx).val=some (cj,n,p)↔ ∃r,((nv cx Γ o (h2 st.regs)).run st.heap nx .none).val=some (r,cj.heap,n,p)/\cj.regs=l1 st.regs o.dst r:=by
 unfold uO;constructor
 ·intro e;obtain ⟨⟨r,h,m,s⟩,M,V⟩:=DT.val_bind_some e;simp only[DT.val,bM,c0]at V;obtain ⟨rfl,rfl,rfl⟩:=V;exact ⟨r,M,rfl⟩
 ·rintro ⟨r,M,V⟩;rw[DT.val_bind,M];obtain ⟨jG,H1⟩:=cj;simp only at V;subst V;rfl
theorem abJ [Env] {o:Oper} {R eT:bS} (h: ∀e,R.get e=eT.get e):nv cx Γ o (h2 R)=nv cx Γ o (h2 eT):=by
 refine aa6 λx _=> ?_
 cases x with
 |tmp t=>simp only[h2];rw[h t]
 |const v=>rfl
 |global g=>rfl
 |func f=>rfl
theorem GF {R eT:bS} (h: ∀e,R.get e=eT.get e) (I:Option Tmp) (r:K) (e:Nat):(l1 R I r).get e=(l1 eT I r).get e:=by rw[wD,wD,h]
theorem AO [Env] {o:Oper} {st cj:bX} {nx n:Nat} {p:dk} (e:(qt cx Γ ops o st nx).val=some (cj,n,p)):
  ∃b r,uS ops st.regs o=some b/\((qP cx Γ o st.regs b).run st.heap nx .none).val=some (r,cj.heap,n,p)/\ ∀e,cj.regs.get e=(l1 st.regs o.dst r).get e:=by
 unfold qt at e;unfold uS;cases bB:o.guard with
 |none=>
  simp only[bB]at e;obtain ⟨r,q,G⟩:=Ga.1 e;exact ⟨true,r,rfl,q,λe=>by rw[G]⟩
 |some Dk=>
  obtain ⟨j,want⟩:=Dk;simp only[bB]at e ⊢;cases al:(ops[j]?).bind (·.dst) with
  |none=>simp[al,DT.val]at e
  |some I=>
   simp only[al]at e ⊢;cases L:(st.regs.get I).bind mB with
   |none=>
    simp only[L]at e ⊢;split at e
    ·rename_i bR;simp only[DT.val,bM,c0]at e;obtain ⟨rfl,rfl,rfl⟩:=e;exact ⟨false,.tup [],by simp only[bR],rfl,λ_=>rfl⟩
    ·simp[DT.val]at e
   |some b=>
    have bR:=AF L;simp only[L,DT.val]at e ⊢;cases E:Ax b want
    ·have pd:b= !want:=by cases b<;>cases want<;>first |rfl |cases E
     simp only[E,av,bM,c0]at e;obtain ⟨rfl,rfl,rfl⟩:=e;exact ⟨false,.tup [],rfl,rfl,GF (tK (by rw[bR,pd])) _ _⟩
    ·have pd:b=want:=by cases b<;>cases want<;>first |rfl |cases E
     simp only[E,aj]at e;obtain ⟨r,q,G⟩:=Ga.1 e;have ar:=tK (R:=st.regs) (I:=I) (b:=want) (by rw[bR,pd]);refine ⟨true,r,rfl,?_,λe=> ?_⟩
     ·simp only[qP,aj];rw[<-abJ ar];exact q
     ·rw[G];exact GF ar _ _ e
theorem OA [Env] {o:Oper} {st:bX} {h:List aH} {nx n:Nat} {p:dk} {b:Bool} {r:K} (aX:uS ops st.regs o=some b) (e:((qP cx Γ o st.regs b).run st.heap nx .none).val=some (r,h,n,p)):
  ∃jG,(qt cx Γ ops o st nx).val=some (⟨jG,h⟩,n,p)/\ ∀e,jG.get e=(l1 st.regs o.dst r).get e:=by
 unfold uS at aX;unfold qt;cases bB:o.guard with
 |none=>
  simp only[bB,bM]at aX;subst aX;exact ⟨l1 st.regs o.dst r,Ga.2 ⟨r,e,rfl⟩,λ_=>rfl⟩
 |some Dk=>
  obtain ⟨j,want⟩:=Dk;simp only[bB]at aX ⊢;cases al:(ops[j]?).bind (·.dst) with
  |none=>simp[al]at aX
  |some I=>
   simp only[al]at aX ⊢;cases L:(st.regs.get I).bind mB with
   |none=>
    simp only[L]at aX ⊢;split at aX
    ·rename_i bR;simp only[bM]at aX;subst aX;simp only[qP,av,HM.run,DT.val,bM,c0]at e;obtain ⟨rfl,rfl,rfl,rfl⟩:=e;refine ⟨l1 st.regs o.dst (.tup []),?_,λ_=>rfl⟩;simp only[bR,DT.val]
    ·cases aX
   |some bZ=>
    have bR:=AF L;simp only[L,bM]at aX;simp only[DT.val];rw[aX];cases b
    ·have pd:bZ= !want:=by cases bZ<;>cases want<;>first |rfl |cases aX
     simp only[qP,av,HM.run,DT.val,bM,c0]at e ⊢;obtain ⟨rfl,rfl,rfl,rfl⟩:=e;exact ⟨_,⟨rfl,rfl,rfl⟩,GF (tK (by rw[bR,pd])) _ _⟩
    ·have pd:bZ=want:=by cases bZ<;>cases want<;>first |rfl |cases aX
     have ar:=tK (R:=st.regs) (I:=I) (b:=want) (by rw[bR,pd]);simp only[qP,aj]at e ⊢;rw[<-abJ ar]at e;exact ⟨l1 (refine st.regs I want) o.dst r,Ga.2 ⟨r,e,rfl⟩,GF ar _ _⟩
def k1 (a b:bX):Prop:=(∀I,a.regs.get I=b.regs.get I)/\a.heap=b.heap
theorem k1.refl (a:bX):k1 a a:=⟨λ_=>rfl,rfl⟩
theorem k1.symm {a b:bX} (h:k1 a b):k1 b a:=⟨λI=>(h.1 I).symm,h.2.symm⟩
theorem k1.trans {a b c:bX} (h:k1 a b) (k:k1 b c):k1 a c:=⟨λI=>(h.1 I).trans (k.1 I),h.2.trans k.2⟩
structure pK [Env] (cx:cm) (Γ:hN) (ops:Array Oper) (base ay:Nat) (a7:Nat->dk) (i:Nat) (st cj:bX):Prop where
 ex: ∃o n,ops[i]? =some o/\(qt cx Γ ops o st (base+slotsOf*i)).val=some (cj,n,a7 i)/\n<=base+slotsOf*i+slotsOf
 lt:r3 ay (a7 i)
 len:st.heap.length=ay
variable {base ay:Nat} {a7:Nat->dk}
theorem pK.left [Env] {i:Nat} {st cj:bX} (d:pK cx Γ ops base ay a7 i st cj):Left st.heap (a7 i) cj.heap:=by obtain ⟨o,n,q,G,W⟩:=d.ex;obtain ⟨b,r,aC,bd,bD⟩:=AO G;obtain ⟨il,-,l,-⟩:=Gw _ st.heap st.heap _ _ _ _ _ bd (by rw[d.len];exact d.lt) rfl (λ_ _=>rfl) (λ_ _=>rfl);exact l
theorem pK.congr [Env] {i:Nat} {st cj bb:bX} (d:pK cx Γ ops base ay a7 i st cj) (e:k1 st bb): ∃tO,pK cx Γ ops base ay a7 i bb tO/\k1 cj tO:=by obtain ⟨o,n,q,G,W⟩:=d.ex;obtain ⟨b,r,aC,bd,bD⟩:=AO G;obtain ⟨bj,ba⟩:=OL (cx:=cx) (Γ:=Γ) (ops:=ops) (o:=o) (R:=st.regs) (eT:=bb.regs) (λI _=>e.1 I);obtain ⟨jG,g1,g2⟩:=OA (cx:=cx) (Γ:=Γ) (ops:=ops) (o:=o) (st:=bb) (nx:=base+slotsOf*i) (b:=b) (by rw[<-bj];exact aC) (by rw[<-ba,<-e.2];exact bd);refine ⟨⟨jG,cj.heap⟩,⟨⟨o,n,q,g1,W⟩,d.lt,by rw[<-e.2];exact d.len⟩,⟨λI=> ?_,rfl⟩⟩;rw[bD,g2,wD,wD,e.1 I]
structure Hp (ops:Array Oper) (a7:Nat->dk) (a b:Nat):Prop where
 regs: ∀tA dh,ops[a]? =some tA->ops[b]? =some dh->(∀I,tA.dst=some I->I∉rX ops dh/\dh.dst≠some I)/\ ∀I,dh.dst=some I->I∉rX ops tA
 ww: ∀o∈(a7 a).wr,o∉(a7 b).wr
 wr: ∀o∈(a7 a).wr,o∉(a7 b).rd
 wf: ∀o∈(a7 a).wr,o∉(a7 b).fz
 rw_: ∀o∈(a7 b).wr,o∉(a7 a).rd
 fw: ∀o∈(a7 b).wr,o∉(a7 a).fz
theorem swap [Env] {a b:Nat} {st cj dM:bX} (tN:pK cx Γ ops base ay a7 a st cj) (D0:pK cx Γ ops base ay a7 b cj dM) (ap:Hp ops a7 a b):
  ∃tO Tc,pK cx Γ ops base ay a7 b st tO/\pK cx Γ ops base ay a7 a tO Tc/\k1 dM Tc:=by
 have jL:=tN.left;obtain ⟨tA,aw7,dr,a2,a3⟩:=tN.ex;obtain ⟨at2,ahU,a4,a5,om⟩:=AO a2;obtain ⟨dh,aw8,b1,b2,b3⟩:=D0.ex;obtain ⟨fr,ahV,hH,hO,j4⟩:=AO b2;obtain ⟨ah,aS⟩:=ap.regs tA dh dr b1;have x2:=OL (cx:=cx) (Γ:=Γ) (ops:=ops) (o:=dh) (R:=cj.regs) (eT:=st.regs) (λI ao=>by rw[om,wD,if_neg];intro h;exact (ah I h).1 ao)
 obtain ⟨dt,fJ,fT,nV,Jm⟩:=Gw _ cj.heap st.heap _ _ _ _ _ hO (by rw[D0.len];exact D0.lt) (by rw[tN.len,D0.len]) (λo ab=>by
  rw[jL.other o (λh=>ap.wr o h ab),abY]) (λo ab=>by
  rw[jL.other o (λh=>ap.ww o h ab)];unfold mW;rw[if_neg (ap.fw o ab)])
 obtain ⟨il,bq,bU,dD,dx⟩:=Gw _ st.heap dt _ _ _ _ _ a5 (by rw[tN.len];exact tN.lt) nV.len (λo ab=>by
  rw[nV.other o (λh=>ap.rw_ o h ab),abY]) (λo ab=>by
  rw[nV.other o (λh=>ap.ww o ab h)];unfold mW;rw[if_neg (ap.wf o ab)])
 obtain ⟨jG,g1,g2⟩:=OA (cx:=cx) (Γ:=Γ) (ops:=ops) (o:=dh) (st:=st) (nx:=base+slotsOf*b) (b:=fr) (by rw[<-x2.1];exact hH) (by rw[<-x2.2];exact fJ);have HG:=OL (cx:=cx) (Γ:=Γ) (ops:=ops) (o:=tA) (R:=st.regs) (eT:=jG) (λI ao=>by rw[g2,wD,if_neg];intro h;exact aS I h ao)
 obtain ⟨wY,g3,g4⟩:=OA (cx:=cx) (Γ:=Γ) (ops:=ops) (o:=tA) (st:=⟨jG,dt⟩) (nx:=base+slotsOf*a) (b:=at2) (by rw[<-HG.1];exact a4) (by rw[<-HG.2];exact bq);refine ⟨⟨jG,dt⟩,⟨wY,il⟩,⟨⟨dh,aw8,b1,g1,b3⟩,D0.lt,tN.len⟩,⟨⟨tA,aw7,dr,g3,a3⟩,tN.lt,by rw[<-tN.len];exact nV.len⟩,⟨λI=> ?_,?_⟩⟩
 ·rw[j4,g4];simp only[wD,om,g2];by_cases q:dh.dst=some I
  ·rw[if_pos q,if_neg (λh=>(ah I h).2 q),if_pos q]
  ·rw[if_neg q,if_neg q]
 ·have hlen:dM.heap.length=il.length:=by rw[dD.len,nV.len,<-jL.len,<-fT.len]
  refine List.ext_getElem? λo=> ?_
  have key:aG dM.heap o=aG il o:=by
   by_cases yD:o∈(a7 a).wr
   ·rw[dx o yD,fT.other o (ap.ww o yD)];unfold mW;rw[if_neg (ap.wf o yD)]
   ·by_cases I6:o∈(a7 b).wr
    ·rw[dD.other o yD];unfold mW;rw[if_neg (ap.fw o I6),Jm o I6]
    ·rw[dD.other o yD,nV.other o I6,fT.other o I6,jL.other o yD];unfold mW;split<;>split<;>rfl
  rcases Nat.lt_or_ge o dM.heap.length with h |h
  ·have cy:o<il.length:=u;simp only[aG,jQ,hx h,hx cy,Option.getD_some]at key;rw[hx h,hx cy,key]
  ·rw[List.getElem?_eq_none h,List.getElem?_eq_none (show il.length<=o by omega)]
def oi [Env] (cx:cm) (Γ:hN) (ops:Array Oper) (base ay:Nat) (a7:Nat->dk):List Nat->bX->bX->Prop
 |[],st,bb=>k1 st bb
 |i::l,st,bb=> ∃cj,pK cx Γ ops base ay a7 i st cj/\oi cx Γ ops base ay a7 l cj bb
theorem oi.congr [Env]: ∀{l:List Nat} {st bb dM:bX},oi cx Γ ops base ay a7 l st bb->k1 st dM->oi cx Γ ops base ay a7 l dM bb
 |[],st,bb,dM,h,e=>e.symm.trans h
 |i::l,st,bb,dM,⟨cj,q,G⟩,e=>by obtain ⟨tO,W,aC⟩:=q.congr e;exact ⟨tO,W,G.congr aC⟩
theorem oi.front [Env]: ∀{dH ds:List Nat} {i:Nat} {st bb:bX},oi cx Γ ops base ay a7 (dH++i::ds) st bb->(∀j∈dH,Hp ops a7 j i)->oi cx Γ ops base ay a7 (i::(dH++ds)) st bb
 |[],ds,i,st,bb,h,_=>h
 |j::dH,ds,i,st,bb,⟨cj,q,G⟩,aV=>by
  obtain ⟨dM,W,aC⟩:=oi.front G λk ag=>aV k (by simp[ag])
  obtain ⟨ax9,aya,bd,bD,dU⟩:=swap q W (aV j aU);exact ⟨ax9,bd,aya,bD,aC.congr dU⟩
end
open Go.RowKit
theorem tW {l m:List Nat} (h:o9 l m=true): ∀a∈l,a∉m:=by
 induction l with
 |nil=>simp
 |cons b l aO=>
  simp only[o9,bQ,eS]at h;intro a aV hm;rcases fe.1 aV with rfl |aV
  ·rw[Bl.2 hm]at h;cases h.1
  ·exact aO h.2 a aV hm
theorem aat {sE:List Nat} {i:Nat} {n:np}: ∀(l:List np) (j:Nat),uR.go sE i n j l=true-> ∀k m,l[k]? =some m->(sE.getD (j+k) 0).testBit i=true\/n.apart m=true
 |[],j,h,k,m,hm=>by simp at hm
 |x::l,j,h,k,m,hm=>by
  simp only[uR.go,bQ,Bool.or_eq_true]at h;cases k with
  |zero=>
   obtain rfl:x=m:=by simpa using hm
   exact h.1
  |succ k=>
   have:=aat l (j+1) h.2 k m (by simpa using hm)
   rwa [show j+1+k=j+(k+1) by omega]at this
theorem abK {sE:List Nat}: ∀(l:List np) (i:Nat),uR sE i l=true-> ∀a b n m,a<b->l[a]? =some n->l[b]? =some m->(sE.getD (i+b) 0).testBit (i+a)=true\/n.apart m=true
 |[],i,h,a,b,n,m,_,aN,_=>by simp at aN
 |x::l,i,h,a,b,n,m,gC,aN,hm=>by
  simp only[uR,bQ]at h;cases b with
  |zero=>omega
  |succ b=>
   cases a with
   |zero=>
    obtain rfl:x=n:=by simpa using aN
    have:=aat l (i+1) h.1 b m (by simpa using hm)
    rwa [show i+1+b=i+(b+1) by omega]at this
   |succ a=>
    have:=abK l (i+1) h.2 a b n m u (by simpa using aN) (by simpa using hm)
    rwa [show i+1+b=i+(b+1) by omega,show i+1+a=i+(a+1) by omega]at this
theorem abG: ∀(l:List Oper) (i:Nat),xt i l=true-> ∀k o,l[k]? =some o-> ∀e∈o.after.toList,Region.binds .any e=true->e.on<i+k
 |[],i,h,k,o,ab,e,he,L=>by simp at ab
 |x::l,i,h,k,o,ab,e,he,L=>by
  simp only[xt,bQ,fD]at h;cases k with
  |zero=>
   obtain rfl:x=o:=by simpa using ab
   have:=h.1 e he;simpa [L] using this
  |succ k=>
   have:=abG l (i+1) h.2 k o (by simpa using ab) e he L;omega
theorem adi (f:Edge->Bool) (g:Edge->Nat) (j:Nat): ∀(l:List Edge) (m:Nat),(l.foldl (λm e=>if f e then m ||| g e else m) m).testBit j=true->m.testBit j=true\/ ∃e∈l,f e=true/\(g e).testBit j=true
 |[],m,h=>.inl h
 |e::l,m,h=>by
  simp only[List.foldl_cons]at h;rcases adi f g j l _ h with q |⟨ee,q,G⟩
  ·cases aM:f e
   ·simp only[aM,Bool.false_eq_true,if_false]at q;exact .inl q
   ·simp only[aM,if_true,Nat.testBit_or,Bool.or_eq_true]at q;rcases q with q |q
    ·exact .inl q
    ·exact .inr ⟨e,aU,aM,q⟩
  ·exact .inr ⟨ee,by simp[q],G⟩
theorem abw: ∀(l:List Oper) (acc:List Nat),(∀k,k<acc.length->(kx.go l acc)[k]? =acc[k]?)/\
  ∀k o,l[k]? =some o-> ∀j,((kx.go l acc).getD (acc.length+k) 0).testBit j=true-> ∃e∈o.after.toList,Region.binds .any e=true/\(j=e.on\/(e.on<acc.length+k/\((kx.go l acc).getD e.on 0).testBit j=true))
 |[],acc=>⟨λk ag=>by simp only[kx.go],λk o ab=>by simp at ab⟩
 |o::l,acc=>by
  let x:=o.after.toList.foldl (λm e=>bif Region.binds .any e then m ||| (1 <<< e.on) ||| acc.getD e.on 0 else m) 0
  obtain ⟨af0,awO⟩:=abw l (acc++[x]);have avr:kx.go (o::l) acc=kx.go l (acc++[x]):=by simp only[kx.go,x]
  rw[avr];have keep: ∀k,k<acc.length->(kx.go l (acc++[x]))[k]? =acc[k]? :=λk ag=>by rw[af0 k (by simp;omega),List.getElem?_append_left ag]
  refine ⟨keep,λk dV ab j al=> ?_⟩;cases k with
  |zero=>
   obtain rfl:o=dV:=by simpa using ab
   have an:(kx.go l (acc++[x])).getD (acc.length+0) 0=x:=by rw[jQ,af0 (acc.length+0) aU];simp
   rw[an]at al;have iF:(o.after.toList.foldl (λm e=>if Region.binds .any e then m ||| ((1 <<< e.on) ||| acc.getD e.on 0) else m) 0).testBit j=true:=by
    have:(λ(m:Nat) (e:Edge)=>bif Region.binds .any e then m ||| (1 <<< e.on) ||| acc.getD e.on 0 else m)=λm e=>if Region.binds .any e then m ||| ((1 <<< e.on) ||| acc.getD e.on 0) else m:=by
     funext m e
     cases Region.binds .any e
     ·rfl
     ·simp[Nat.or_assoc]
    rw[<-this];exact al
   rcases adi (Region.binds .any) (λe=>(1 <<< e.on) ||| acc.getD e.on 0) j o.after.toList 0 iF with h |⟨e,he,L,ae0⟩
   ·simp at h
   ·refine ⟨e,he,L,?_⟩;simp only[Nat.testBit_or,Bool.or_eq_true]at ae0;rcases ae0 with h |h
    ·left;simpa [Nat.one_shiftLeft,Nat.testBit_two_pow] using Eq.symm (by simpa [Nat.one_shiftLeft,Nat.testBit_two_pow] using h:e.on=j)
    ·right;have bw:e.on<acc.length:=by
      rcases Nat.lt_or_ge e.on acc.length with q |q
      ·exact q
      ·simp[jQ,List.getElem?_eq_none q]at h
     refine ⟨u,?_⟩;rw[jQ,keep e.on bw,<-jQ];exact h
  |succ k=>
   have ag:(acc++[x]).length+k=acc.length+(k+1):=by simp;omega
   have:=awO k dV (by simpa using ab) j (by rw[ag];exact al)
   rwa [ag]at this
theorem aq9 {l:List Oper} {k:Nat} {o:Oper} (ab:l[k]? =some o) {j:Nat} (h:((kx l).getD k 0).testBit j=true): ∃e∈o.after.toList,Region.binds .any e=true/\(j=e.on\/(e.on<k/\((kx l).getD e.on 0).testBit j=true)):=by have:=(abw l []).2 k o ab j (by simpa [kx] using h);simpa [kx] using this
section
variable {P:cA} {cx:cm} {Γ:hN} {ops:Array Oper} {base ay:Nat}
def qN (Q:List np) (i:Nat):dk:=((Q[i]?).map (·.fp)).getD .none
theorem aaU [Env]: ∀(l:List Oper) (i:Nat) (st bb:bX) (Q ql:List np),(Bx cx Γ ops base ay i l st Q).val=some (bb,ql)->Q.length=i->(∀k,l[k]? =ops[i+k]?)->st.heap.length=ay->
  ql.length=i+l.length/\(∀k,k<i->ql[k]? =Q[k]?)/\(∀k o n,l[k]? =some o->ql[i+k]? =some n->n.dst=o.dst.toList/\n.uses=rX ops o)/\
   oi cx Γ ops base ay (qN ql) (List.range' i l.length) st bb
 |[],i,st,bb,Q,ql,e,aN,ad,nE=>by simp only[Bx,DT.val,bM,c0]at e;obtain ⟨rfl,rfl⟩:=e;exact ⟨by simp[aN],λ_ _=>rfl,λk o n h=>by simp at h,k1.refl _⟩
 |o::l,i,st,bb,Q,ql,e,aN,ad,nE=>by
  simp only[Bx]at e;obtain ⟨⟨cj,n,fp⟩,M,V⟩:=DT.val_bind_some e;simp only at V;cases L:Nat.ble n (base+slotsOf*i+slotsOf)&&FF ay fp
  ·simp[L,DT.val]at V
  ·simp only[L,aj]at V;simp only[bQ]at L;have bw:=r3.of L.2;have ab:ops[i]? =some o:=by simpa using (ad 0).symm
   have hlen:cj.heap.length=ay:=by obtain ⟨b,r,aC,bd,bD⟩:=AO M;obtain ⟨il,-,awV,-⟩:=Gw _ st.heap st.heap _ _ _ _ _ bd (by rw[nE];exact bw) rfl (λ_ _=>rfl) (λ_ _=>rfl);rw[awV.len,nE]
   obtain ⟨bq,bU,dD,dx⟩:=aaU l (i+1) cj bb _ ql V (by simp[aN]) (λk=>by have:=ad (k+1);simpa [Nat.add_assoc,Nat.add_comm 1 k] using this) hlen
   have E:ql[i]? =some ⟨o.dst.toList,rX ops o,fp⟩:=by rw[bU i u,List.getElem?_append_right u];simp[aN]
   have afe:qN ql i=fp:=by simp[qN,E]
   refine ⟨by rw[bq];simp;omega,λk ag=>by rw[bU k u,List.getElem?_append_left u],λk dV aE ag ka=> ?_,⟨cj,⟨⟨o,n,ab,by rw[afe];exact M,by simpa using L.1⟩,by rw[afe];exact bw,nE⟩,dx⟩⟩;cases k with
   |zero=>
    obtain rfl:o=dV:=by simpa using ag
    rw[Nat.add_zero,E]at ka;obtain rfl:=eY ka;exact ⟨rfl,rfl⟩
   |succ k=>
    exact dD k dV aE (by simpa using ag) (by rw[show i+1+k=i+(k+1) by omega];exact ka)
variable {nt:jD} {a7:Nat->dk}
theorem dv.congr [Env] {φ:bP} {ι:Nat->aA} {w:bm} {st bb:bX} {a:Act} (d:dv φ ι w nt st a) (e:k1 st bb):dv φ ι w nt bb a:=
 ⟨by rw[<-e.2];exact d.heap,λI r h=>by rw[<-e.2];exact d.regs I r (by rw[e.1 I];exact h),d.nt,d.small,by rw[<-e.2];exact d.defers⟩
theorem asI [Env] (tab:cT P cx) (c8:cd P Γ) {bx:Exit->Act->bm->Prop} {tP:bX} (Rt:ops.toList.all (pS nt.n)=true) (avi:xt 0 ops.toList=true)
  (oB: ∀a b,a<b->b<ops.size->((kx ops.toList).getD b 0).testBit a=true\/Hp ops a7 a b) (nE:base+slotsOf*ops.size<=ay)
  {T9:bP} {z7:Nat->aA} {hX:bm} {wN:List aH}
  (k: ∀bt aq ax aJ,dv ax aJ aq nt tP bt->Step T9 z7 hX wN ax aJ aq tP.heap->eo z7 wN aJ tP.heap->bx .normal bt aq):
  ∀(fuel:Nat) (listed:Array Bool) (rest:List Nat) (st:bX) (φ:bP) (ι:Nat->aA) (w:bm) (a:Act),rest.length<=fuel->rest.Pairwise (· < ·)->listed.size=ops.size->(∀i,i∈rest↔(i<ops.size/\listed.getD i true=false))->
   (∀i,i<ops.size->i∉rest-> ∀j,((kx ops.toList).getD i 0).testBit j=true->j∉rest)->(∀i∈rest,∀k,base+slotsOf*i<=k->k<base+slotsOf*i+slotsOf->(aG st.heap k).live=false)->st.heap.length=ay->
   oi cx Γ ops base ay a7 rest st tP->dv φ ι w nt st a->Step T9 z7 hX wN φ ι w st.heap->eo z7 wN ι st.heap->wpAnyIn (e9 nt.ro) 0 P .any ops bx fuel listed a w:=by
 intro fuel;have norm: ∀{listed:Array Bool} {rest:List Nat} {st:bX} {φ:bP} {ι:Nat->aA} {w:bm} {a:Act},rest.Pairwise (· < ·)->(∀i,i∈rest↔(i<ops.size/\listed.getD i true=false))->listed.size=ops.size->oi cx Γ ops base ay a7 rest st tP->dv φ ι w nt st a->Step T9 z7 hX wN φ ι w st.heap->eo z7 wN ι st.heap->
   Region.ready .any ops listed=[]->bx .normal a w:=by
  intro listed rest st φ ι w a af ea eb zA cr sp b4 ar;cases rest with
  |nil=>
   have e:k1 st tP:=zA;refine k a w φ ι (cr.congr e) ?_ ?_
   ·rw[<-e.2];exact sp
   ·rw[<-e.2];exact b4
  |cons i rest=>
   exfalso;have E:=(ea i).1 aU;have:i∈Region.ready .any ops listed:=by
    unfold Region.ready;rw[e8];refine ⟨by simp[E.1],?_⟩;rw[E.2];have IV:ops[i]? =some ops[i]:=Array.getElem?_eq_getElem E.1;simp only[IV,Option.map_some,Option.getD_some,cH,Bool.true_and];rw[Array.all_eq_true'];intro e he;cases L:Region.binds .any e
    ·rfl
    ·simp only[cK,Bool.false_or];have bw:=abG ops.toList 0 avi i ops[i] aU e (by simpa using he) L;have mu:e.on∉i::rest:=by
      intro hm;rcases fe.1 hm with h |h
      ·omega
      ·have:=(List.pairwise_cons.1 af).1 e.on h;omega
     have p7:e.on<ops.size:=u;have G: ¬(listed.getD e.on true=false):=λh=>mu ((ea e.on).2 ⟨p7,h⟩)
     have W:e.on<listed.size:=u;simp only[ji,Array.getElem?_eq_getElem W,Option.getD_some]at G ⊢;simpa using G
   rw[ar]at this;cases this
 induction fuel with
 |zero=>
  intro listed rest st φ ι w a hle af eb ea jd h5 hlen zA cr sp b4;have:rest=[]:=by
   cases rest with
   |nil=>rfl
   |cons a l=>simp at hle
  subst this;have ar:Region.ready .any ops listed=[]:=by unfold Region.ready;rw[List.filter_eq_nil_iff];intro i E au;simp only[bQ,eS]at au;have:=(ea i).2 ⟨by simpa using E,au.1⟩;cases this
  exact ⟨ar,norm af ea eb zA cr sp b4 ar⟩
 |succ fuel aO=>
  intro listed rest st φ ι w a hle af eb ea jd h5 hlen zA cr sp b4;refine ⟨norm af ea eb zA cr sp b4,λi E=> ?_⟩;unfold Region.ready at E;rw[e8]at E;obtain ⟨iE,e3⟩:=E;have iE:i<ops.size:=by simpa using iE
  simp only[bQ,eS]at e3;have q9:=(ea i).2 ⟨iE,e3.1⟩;have IV:ops[i]? =some ops[i]:=Array.getElem?_eq_getElem iE;have ae8: ∀e∈ops[i].after.toList,Region.binds .any e=true->e.on∉rest:=by intro e he L hm;have G:=e3.2;simp only[IV,Option.map_some,Option.getD_some]at G;rw[Array.all_eq_true']at G;have W:=G e (by simpa using he);simp only[L,cK,Bool.false_or]at W;have aC:=((ea e.on).1 hm);have bd:e.on<listed.size:=u;have bD:=aC.2;simp only[ji,Array.getElem?_eq_getElem bd,Option.getD_some]at W bD;rw[W]at bD;cases bD
  have aeY: ∀j,((kx ops.toList).getD i 0).testBit j=true->j∉rest:=by
   intro j al;obtain ⟨e,he,L,h⟩:=aq9 (o:=ops[i]) aU al;rcases h with rfl |⟨q,G⟩
   ·exact ae8 e he L
   ·exact jd e.on u (ae8 e he L) j G
  obtain ⟨dH,ds,rfl⟩:=List.append_of_mem q9;rw[List.pairwise_append]at af;obtain ⟨s1,s2,jB⟩:=af;rw[List.pairwise_cons]at s2;have ayI:=oi.front zA λj al=>(oB j i (jB j al i aU) iE).resolve_left λh=>aeY j h (dn.2 (.inl al))
  obtain ⟨cj,gG,ayJ⟩:=ayI;obtain ⟨o,aE,ab,he,ka⟩:=gG.ex;have av5:o=ops[i]:=by rw[IV]at ab;exact (eY ab).symm
  have hmul:slotsOf*i+slotsOf<=slotsOf*ops.size:=by
   have:=Nat.mul_le_mul_left slotsOf iE
   rwa [Nat.mul_succ]at this
  have avf:pS nt.n o=true:=by rw[av5];exact fD.1 Rt _ aU
  have eg:jj st.heap (base+slotsOf*i) aE:=⟨u,λk q G=>h5 i aU k q u⟩;have qd:=NC tab c8 he cr eg avf (oe:=wpAnyIn (e9 nt.ro) 0 P .any ops bx fuel (listed.setIfInBounds i true)) (bx:=bx) λbt aq ax aJ cY ayp awQ aw9=>by
   have ct: ∀j,j∈dH++ds->j≠i:=by
    rintro j al rfl;rcases dn.1 al with h |h
    ·have:=jB j h j aU;omega
    ·have:=s2.1 j h;omega
   have p8: ∀j,j∈dH++ds↔(j∈dH++i::ds/\j≠i):=by
    intro j;constructor
    ·intro h;refine ⟨?_,ct j h⟩;rcases dn.1 h with h |h
     ·exact dn.2 (.inl h)
     ·exact dn.2 (.inr (by simp[h]))
    ·rintro ⟨h,iN⟩;rcases dn.1 h with h |h
     ·exact dn.2 (.inl h)
     ·exact dn.2 (.inr (by simpa [iN] using h))
   refine aO (listed.setIfInBounds i true) (dH++ds) cj ax aJ aq bt (by simp at hle ⊢;omega) ?_ (by simp[eb]) (λj=> ?_) (λj al avZ b L=> ?_) (λj al c9 q G=> ?_) (by rw[gG.left.len,hlen]) ayJ cY (sp.trans ayp) (b4.trans awQ)
   ·rw[List.pairwise_append];exact ⟨s1,s2.2,λx an y bu=>jB x an y (by simp[bu])⟩
   ·rw[p8,ea];simp only[ji,Array.getElem?_setIfInBounds];by_cases iN:i=j
    ·subst iN;have:i<listed.size:=u;simp[this]
    ·simp only[if_neg iN];constructor
     ·rintro ⟨h,-⟩;exact h
     ·intro h;exact ⟨h,λcy=>iN cy.symm⟩
   ·intro hm;have CU:=((p8 b).1 hm).1;by_cases iN:j=i
    ·subst iN;exact aeY b L CU
    ·exact jd j al (λh=>avZ ((p8 j).2 ⟨h,iN⟩)) b L CU
   ·have iF:=(p8 j).1 al;have iN:=iF.2;have:c9<base+slotsOf*i\/aE<=c9:=by
     rcases Nat.lt_or_ge j i with h |h
     ·left;have:=Nat.mul_le_mul_left slotsOf h;rw[Nat.mul_succ]at this;omega
     ·right;have pj:i<j:=u;have:=Nat.mul_le_mul_left slotsOf pj;rw[Nat.mul_succ]at this;omega
    rw[aw9.same c9 this];exact h5 j iF.1 c9 q G
  unfold wpOpIn;rw[ab];simp only;split
  ·rename_i h;rw[if_pos h]at qd;exact qd
  ·rename_i h;rw[if_neg h]at qd;exact ⟨λ_ _=>trivial,qd⟩
end
open Go.RowKit
theorem tU (t:az) (x:t.den):t.cast? t x=some x:=by simp[az.cast?]
theorem aa7: ∀(ni:List az) (l:List eP) (c:(chain ni).den),xr ni l=some c->(chain ni).parts c=l
 |[],[],c,h=>rfl
 |[],_::_,c,h=>by simp[xr]at h
 |_::_,[],c,h=>by simp[xr]at h
 |t::ni,I::l,c,h=>by
  simp only[xr]at h;split at h
  ·rename_i x y an bu;obtain rfl:=eY h;obtain ⟨e,afS⟩:=rP an;obtain ⟨ae,z⟩:=I;simp only at e;subst e;simp only at afS;have:=aa7 ni l y bu;simp only[chain,az.parts,this,afS]
  ·cases h
mutual
theorem cw.dec_enc: ∀(d:cw) (r:K) (l rest:List eP),d.dec r=some l->d.enc (l++rest)=some (r,rest)
 | .dat t,r,l,rest,h=>by
  cases r<;>simp only[cw.dec,reduceCtorEq]at h;rename_i ae x;cases L:decide (ae=t)
  ·simp[L]at h
  ·simp only[L,aj,bM]at h;have e:ae=t:=by simpa using L
   subst e h;simp[cw.enc,mF,tU]
 | .clip t,r,l,rest,h=>by
  cases r<;>simp only[cw.dec,reduceCtorEq]at h;rename_i ae x;cases L:decide (ae=t)
  ·simp[L]at h
  ·simp only[L,aj,bM]at h;have e:ae=t:=by simpa using L
   subst e h;simp[cw.enc,mF,tU]
 | .own t o,r,l,rest,h=>by
  cases r<;>simp only[cw.dec,reduceCtorEq]at h;rename_i ae dV;cases L:decide (ae=t)&&Nat.beq o dV
  ·simp[L]at h
  ·simp only[L,aj,bM]at h;simp only[bQ,dS,Nat.beq_eq]at L;obtain ⟨M,V⟩:=L;subst M V h;simp[cw.enc]
 | .ptr o t i p,r,l,rest,h=>by
  cases r<;>simp only[cw.dec,reduceCtorEq]at h;rename_i dV iI ru hv;cases L:Nat.beq o dV&&decide (t=iI)&&Nat.beq i ru&&decide (p=hv)
  ·simp[L]at h
  ·simp only[L,aj,bM]at h;simp only[bQ,dS,Nat.beq_eq]at L;obtain ⟨⟨⟨M,V⟩,aY⟩,bp⟩:=L;subst M V aY bp h;simp[cw.enc]
 | .agg d,r,l,rest,h=>by cases r<;>simp only[cw.dec,reduceCtorEq]at h;rename_i m;simp[cw.enc,cw.decL_enc d m l rest h]
 | .fn f a b,r,l,rest,h=>by
  cases r<;>simp only[cw.dec,reduceCtorEq]at h;rename_i g x y;cases L:Nat.beq f g
  ·simp[L]at h
  ·simp only[L,aj]at h;have e:f=g:=by simpa using L
   subst e;split at h
   ·rename_i dH q;obtain ⟨m,hm,rfl⟩:=ib.1 h;have bf:=cw.decL_enc a x dH (m++rest) q;have a6:=cw.decL_enc b y m rest hm;simp only[cw.enc,List.append_assoc,bf,a6,Option.map_some]
   ·cases h
 | .iface T d,r,l,rest,h=>by
  cases r<;>simp only[cw.dec,reduceCtorEq]at h;rename_i U x;cases L:Nat.beq T U
  ·simp[L]at h
  ·simp only[L,aj]at h;have e:T=U:=by simpa using L
   subst e;simp[cw.enc,cw.dec_enc d x l rest h]
 | .nils e t,r,l,rest,h=>by
  cases r<;>simp only[cw.dec,reduceCtorEq]at h;rename_i ee iI;cases L:Nat.beq e ee&&decide (t=iI)
  ·simp[L]at h
  ·simp only[L,aj,bM]at h;simp only[bQ,dS,Nat.beq_eq]at L;obtain ⟨M,V⟩:=L;subst M V h;simp[cw.enc]
 | .nilI,r,l,rest,h=>by cases r<;>simp only[cw.dec,reduceCtorEq]at h;obtain rfl:=eY h;rfl
 | .dfr f a b t,r,l,rest,h=>by
  cases r<;>simp only[cw.dec,reduceCtorEq]at h;rename_i g x y ae xs;cases L:Nat.beq f g&&decide (ae=t)
  ·simp[L]at h
  ·simp only[L,aj]at h;simp only[bQ,dS,Nat.beq_eq]at L;obtain ⟨M,V⟩:=L;subst M V;split at h
   ·rename_i dH q;split at h
    ·rename_i ds G;obtain rfl:=eY h;have bq:=cw.decL_enc a x dH (ds++(⟨.list ae,xs⟩::rest)) q;have bU:=cw.decL_enc b y ds (⟨.list ae,xs⟩::rest) G;have ch:dH++(ds++[⟨.list ae,xs⟩])++rest=dH++(ds++(⟨.list ae,xs⟩::rest)):=aU;rw[ch];simp[cw.enc,bq,bU,mF,az.cast?]
    ·cases h
   ·cases h
 | .yld Y o,r,l,rest,h=>by
  cases r<;>simp only[cw.dec,reduceCtorEq]at h;rename_i sd dV;cases L:Nat.beq Y sd&&Nat.beq o dV
  ·simp[L]at h
  ·simp only[L,aj,bM]at h;simp only[bQ,Nat.beq_eq]at L;obtain ⟨M,V⟩:=L;subst M V h;simp[cw.enc]
 | .nilF,r,l,rest,h=>by cases r<;>simp only[cw.dec,reduceCtorEq]at h;obtain rfl:=eY h;rfl
 | .nilP,r,l,rest,h=>by cases r<;>simp only[cw.dec,reduceCtorEq]at h;obtain rfl:=eY h;rfl
 | .undef,r,l,rest,h=>by cases r<;>simp only[cw.dec,reduceCtorEq]at h;obtain rfl:=eY h;rfl
theorem cw.decL_enc: ∀(d:List cw) (r:List K) (l rest:List eP),cw.decL d r=some l->cw.encL d (l++rest)=some (r,rest)
 |[],[],l,rest,h=>by simp only[cw.decL,bM]at h;subst h;rfl
 |[],_::_,l,rest,h=>by simp[cw.decL]at h
 |_::_,[],l,rest,h=>by simp[cw.decL]at h
 |d::mE,r::rs,l,rest,h=>by
  simp only[cw.decL]at h;split at h
  ·rename_i a aV;obtain ⟨b,L,rfl⟩:=ib.1 h;have bf:=cw.dec_enc d r a (b++rest) aV;have a6:=cw.decL_enc mE rs b rest L;simp only[cw.encL,List.append_assoc,bf,a6,Option.map_some]
  ·cases h
end
theorem rM: ∀(d:List (Nat×cw)) (R:bS) (l rest:List eP),jg d R=some l->qy d (l++rest)=some (R,rest)
 |[],[],l,rest,h=>by simp only[jg,bM]at h;subst h;rfl
 |[],_::_,l,rest,h=>by simp[jg]at h
 |_::_,[],l,rest,h=>by simp[jg]at h
 |(I,d)::mE,(e,r)::rs,l,rest,h=>by
  simp only[jg]at h;cases L:Nat.beq I e
  ·simp[L]at h
  ·simp only[L,aj]at h;have e:I=e:=by simpa using L
   subst e;split at h
   ·rename_i a aV;obtain ⟨b,L,rfl⟩:=ib.1 h;have bf:=cw.dec_enc d r a (b++rest) aV;have a6:=rM mE rs b rest L;simp only[qy,List.append_assoc,bf,a6,Option.map_some]
   ·cases h
theorem dX.dec_enc (d:dX) (b:aH) (l rest:List eP) (h:d.dec b=some l):d.enc (l++rest)=some (b,rest):=by
 cases d with
 |arr e t fz=>
  cases b<;>simp only[dX.dec,reduceCtorEq]at h;rename_i ee ae xs kJ;cases L:Nat.beq e ee&&decide (ae=t)&&decide (fz=kJ)
  ·simp[L]at h
  ·simp only[L,aj,bM]at h;simp only[bQ,dS,Nat.beq_eq]at L;obtain ⟨⟨M,V⟩,aY⟩:=L;subst M V aY h;simp[dX.enc,mF,tU]
 |box T t r=>
  cases b<;>simp only[dX.dec,reduceCtorEq]at h;rename_i Ft iI d;cases L:Nat.beq T Ft&&decide (t=iI)
  ·simp[L]at h
  ·simp only[L,aj]at h;simp only[bQ,dS,Nat.beq_eq]at L;obtain ⟨M,V⟩:=L;subst M V;simp[dX.enc,cw.dec_enc r d l rest h]
 |iter=>
  cases b<;>simp only[dX.dec,reduceCtorEq,bM]at h;subst h;simp[dX.enc,mF,tU]
 |gone=>
  cases b<;>simp only[dX.dec,reduceCtorEq,bM]at h;subst h;simp[dX.enc]
 |loop Y R=>
  cases b<;>simp only[dX.dec,reduceCtorEq]at h;rename_i sd eT p;cases L:Nat.beq Y sd
  ·simp[L]at h
  ·simp only[L,aj]at h;have e:Y=sd:=by simpa using L
   subst e;obtain ⟨m,hm,rfl⟩:=ib.1 h;have bf:=rM R eT m ([⟨.int .i64,p⟩]++rest) hm;rw[List.append_assoc];simp only[dX.enc,bf];simp only[mF,List.cons_append,List.nil_append,tU,Option.map_some]
theorem abE: ∀(d:List dX) (R:List aH) (l rest:List eP),fY d R=some l->xE d (l++rest)=some (R,rest)
 |[],[],l,rest,h=>by simp only[fY,bM]at h;subst h;rfl
 |[],_::_,l,rest,h=>by simp[fY]at h
 |_::_,[],l,rest,h=>by simp[fY]at h
 |d::mE,r::rs,l,rest,h=>by
  simp only[fY]at h;split at h
  ·rename_i a aV;obtain ⟨b,L,rfl⟩:=ib.1 h;have bf:=dX.dec_enc d r a (b++rest) aV;have a6:=abE mE rs b rest L;simp only[xE,List.append_assoc,bf,a6,Option.map_some]
  ·cases h
theorem Shape.dec_enc {S:Shape} {st:bX} {d:S.ty.den} (h:S.dec st=some d):S.enc d=st:=by
 unfold Shape.dec at h;cases aV:jg S.regs st.regs with
 |none=>simp[aV]at h
 |some a=>
  cases L:fY S.objs st.heap with
  |none=>simp[aV,L]at h
  |some b=>
   simp only[aV,L]at h;have aT:S.ty.parts d=a++b:=aa7 _ _ d h;unfold Shape.enc;rw[aT,rM _ _ a b aV];have:=abE _ _ b [] L;rw[List.append_nil]at this;simp only[this]
open Go.RowKit
structure hj [Env] (φ:bP) (ι:Nat->aA) (w:bm) (J:List aH) (n:Nat) (ax:bP) (aJ:Nat->aA) (aB:List aH) (aE:Nat):Prop where
 rel:ck ax aJ w aB
 step:Step φ ι w J ax aJ w aB
 keep:eo ι J aJ aB
 top:aE=aB.length
section
variable {φ:bP} {ι:Nat->aA} {w:bm} {J:List aH} {n:Nat} {aB:List aH} {aE:Nat}
theorem hj.refl [Env] (h:ck φ ι w J) (aN:n=J.length):hj φ ι w J n φ ι J n:=⟨h,Step.refl _ _ _ _,eo.refl _ _,aN⟩
theorem hj.trans [Env] {dF:bP} {fo:Nat->aA} {H1:List aH} {cG:Nat} {eh:bP} {en:Nat->aA} {fg:List aH} {dq:Nat} (a:hj φ ι w J n dF fo H1 cG) (b:hj dF fo w H1 cG eh en fg dq):hj φ ι w J n eh en fg dq:=
 ⟨b.rel,a.step.trans b.step,a.keep.trans b.keep,b.top⟩
theorem hj.ghost [Env] {ax:bP} (g:ff φ ι w J ax aB) (aN:n=J.length):hj φ ι w J n ax ι aB n:=⟨g.rel,g.step,g.keep,by rw[g.len,aN]⟩
theorem hj.of_yld [Env] {r:K} {v:aA} (y:cL φ ι w J n r aB aE (.ok v w)) (aN:n=J.length): ∃ax aJ,hj φ ι w J n ax aJ aB aE/\r.rel ax aJ w v/\ ∀i∈r.ids,(aG aB i).live=true:=by
 obtain ⟨lz,aq,ax,aJ,e,q,G,W,aC,bd,bD⟩:=y;injection e with M V
 subst M V;exact ⟨ax,aJ,⟨q,G,W,(aC.seq aN).symm⟩,bd,bD⟩
theorem atc [Env] (h:ck φ ι w J) {t ae:az} {o E:Nat} {e:bs} {xs:List ae.den} {v:aA} (ar:(K.view t o 0 E).rel φ ι w v) (ab:aG J o=.arr e ae xs false) (aN:n=J.length):
  ∃ax aJ,hj φ ι w J n ax aJ (cc (cc J o .gone) n (.arr e ae (xs.take E) false)) (n+1)/\(K.own ae n).rel ax aJ w v/\ ∀i∈(K.own ae n).ids,(aG (cc (cc J o .gone) n (.arr e ae (xs.take E) false)) i).live=true:=by
 obtain ⟨A,m,c,di,M,bW,q,G,rfl,W,aC⟩:=ar;have dC:=h.obj o;rw[ab]at dC;obtain ⟨jC,cW,ba,f1,f2,f3,f4,f5⟩:=dC;rw[M]at f1;obtain ⟨rfl,rfl,rfl⟩:=iM f1;have oH:(aG J o).owns=true:=by rw[ab];rfl
 have h5:(aG J n).live=false:=by rw[aN,pv (ca _)];rfl
 have Cv:c≠0->di=A:=by intro au;obtain ⟨b,dp,L⟩:=aC au;rw[W au,L];simp[hJ]
 obtain ⟨bf,a6,cq,ef⟩:=xw (ax:=φ) (aq:=w) h oH u h5 (v:=.slice di (E-0) (c-0)) (dh:=.arr e ae (xs.take E) false) rfl rfl rfl rfl rfl (ca _) (λ_ _ _=>rfl) (λ_ _ h=>h) (λ_ _ _=>rfl) (λ_ _ h=>.inl h)
  (λb L=>by
   right;rw[M];by_cases au:c=0
   ·subst au;cases di<;>simp[dN]at L
   ·rw[Cv au]at L;cases A<;>simp[dN,au]at L ⊢;exact L)
  (by
   refine ⟨di,E-0,c-0,by simp[ej],by simp;omega,u,u,?_⟩;rcases f5 with f5 |⟨b,pre,cur,c7,g1,g2,g3,g4,g0,g5,g6,g7,g8⟩
   ·left;omega
   ·by_cases au:c=0
    ·left;omega
    ·right;refine ⟨b,pre,cur,c7,(Cv au).trans g1,g2,by simpa using g3,g4,g0,⟨g5.one,g5.at_ g6 _⟩,?_,λk ag=>(by have:=(g7 k ag).1;cases this),λh=>(by cases h)⟩;have:=g6.take (λx c=>bA.len ae x c) E;rw[List.take_take]at this;rw[Nat.sub_zero]
     rwa [Nat.min_eq_left (gZ _ q)]at this)
 refine ⟨φ,_,⟨bf,a6,cq,(ef.seq aN).symm⟩,uM ⟨by simp[ej],_,_,_,rfl⟩,?_⟩;intro i E;have:i=n:=by simpa [K.ids] using E
 subst this;have ad:(cc J o .gone).length=J.length:=ik J o _ (gP (by rw[ab];rfl));rw[gO _ i _ i u,if_pos rfl];rfl
theorem atb [Env] (h:ck φ ι w J) {ae:az} {o aR E:Nat} {e:bs} {xs:List ae.den} {v:aA} (ar:(K.view ae o aR E).rel φ ι w v) (ab:aG J o=.arr e ae xs false) (aN:n=J.length):
  ∃ax aJ,hj φ ι w J n ax aJ (cc (cc J o .gone) n (.arr e ae ((xs.take E).drop aR) false)) (n+1)/\(K.own ae n).rel ax aJ w v/\ ∀i∈(K.own ae n).ids,(aG (cc (cc J o .gone) n (.arr e ae ((xs.take E).drop aR) false)) i).live=true:=by
 obtain ⟨A,m,c,di,M,bW,q,G,rfl,W,aC⟩:=ar;have dC:=h.obj o;rw[ab]at dC;obtain ⟨jC,cW,ba,f1,f2,f3,f4,f5⟩:=dC;rw[M]at f1;obtain ⟨rfl,rfl,rfl⟩:=iM f1;have oH:(aG J o).owns=true:=by rw[ab];rfl
 have h5:(aG J n).live=false:=by rw[aN,pv (ca _)];rfl
 have Cv:c≠aR-> ∃b dp,A=some ⟨b,dp,none⟩/\di=some ⟨b,dp+aR*ae.size,none⟩:=by intro au;obtain ⟨b,dp,L⟩:=aC u;refine ⟨b,dp,L,?_⟩;rw[W au,L];simp[hJ]
 obtain ⟨bf,a6,cq,ef⟩:=xw (ax:=φ) (aq:=w) h oH u h5 (v:=.slice di (E-aR) (c-aR)) (dh:=.arr e ae ((xs.take E).drop aR) false) rfl rfl rfl rfl rfl (ca _) (λ_ _ _=>rfl) (λ_ _ h=>h) (λ_ _ _=>rfl) (λ_ _ h=>.inl h)
  (λb L=>by
   right;rw[M];by_cases au:c=aR
   ·rw[au,Nat.sub_self]at L;cases di<;>simp[dN]at L
   ·obtain ⟨bZ,dp,rfl,rfl⟩:=Cv au;have bw:aR<c:=Nat.lt_of_le_of_ne (Nat.le_trans bW (Nat.le_trans q G)) (Ne.symm au);have m0:c-aR≠0:=Nat.sub_ne_zero_of_lt bw;have lP:c≠0:=Nat.pos_iff_ne_zero.1 (Nat.lt_of_le_of_lt (Nat.zero_le aR) bw);simp only[dN,if_neg m0,if_neg lP]at L ⊢;exact L)
  (by
   refine ⟨di,E-aR,c-aR,by simp[ej],by simp;omega,u,u,?_⟩;by_cases au:c=aR
   ·left;omega
   ·rcases f5 with f5 |⟨b,pre,cur,c7,g1,g2,g3,g4,g0,g5,g6,g7,g8⟩
    ·left;omega
    ·right;obtain ⟨bZ,dp,bq,bU⟩:=Cv au;rw[g1]at bq;injection bq with bq
     injection bq with bq SX
     subst bq SX;have afr:aR*ae.size<=cur.toList.length:=by rw[iz,g3];exact gZ _ u
     have awp:(pre.toList++cur.toList.take (aR*ae.size)).toArray++(cur.toList.drop (aR*ae.size)).toArray=pre++cur:=by apply Array.ext';simp
     have afD:((pre.toList++cur.toList.take (aR*ae.size)).toArray).size=pre.size+aR*ae.size:=by simp only[List.size_toArray,et,eE,iz]at afr ⊢;omega
     have nG:((cur.toList.drop (aR*ae.size)).toArray).size=cur.size-aR*ae.size:=aU;rw[iz]at afr;have hmul:(E-aR)*ae.size=E*ae.size-aR*ae.size:=Nat.sub_mul _ _ _;have aAb:aR*ae.size<=E*ae.size:=gZ _ bW;refine ⟨b,(pre.toList++cur.toList.take (aR*ae.size)).toArray,(cur.toList.drop (aR*ae.size)).toArray,c7,by rw[bU,afD],by rw[awp];exact g2,by rw[nG,g3,<-Nat.sub_mul],by rw[afD,nG,show pre.size+aR*ae.size+(cur.size-aR*ae.size)=pre.size+cur.size by omega];exact g4,?_,⟨?_,?_⟩,?_,λk ag=>(by have:=(g7 k ag).1;cases this),λh=>(by cases h)⟩
     ·intro x an;rcases dn.1 an with an |an
      ·exact g0 x an
      ·exact g5.one x (List.mem_of_mem_take an)
     ·intro x an;exact g5.one x (List.mem_of_mem_drop an)
     ·have:=g5.at_ g6 E;refine this.imp id λ⟨eO,bK⟩=>⟨eO,?_⟩
      show c4 _ _ ((cur.toList.drop (aR*ae.size)).drop ((E-aR)*ae.size));rw[List.drop_drop,show aR*ae.size+(E-aR)*ae.size=E*ae.size by omega];exact bK
     ·have:=(g6.take (λx c=>bA.len ae x c) E).drop (λx c=>bA.len ae x c) aR;have nD:(cur.toList.take (E*ae.size)).drop (aR*ae.size)=(cur.toList.drop (aR*ae.size)).take ((E-aR)*ae.size):=by rw[List.drop_take,hmul]
      rw[List.take_take,Nat.min_eq_left (gZ _ q),nD]at this;exact this)
 refine ⟨φ,_,⟨bf,a6,cq,(ef.seq aN).symm⟩,uM ⟨by simp[ej],_,_,_,rfl⟩,?_⟩;intro i E;have:i=n:=by simpa [K.ids] using E
 subst this;have ad:(cc J o .gone).length=J.length:=ik J o _ (gP (by rw[ab];rfl));rw[gO _ i _ i u,if_pos rfl];rfl
mutual
theorem Nu [Env]: ∀(d:cw) (r gX:K) (v:aA) (φ:bP) (ι:Nat->aA) (J:List aH) (n:Nat) (aB:List aH) (aE:Nat),(Bz d r).go J n=some (gX,aB,aE)->n=J.length->ck φ ι w J->r.rel φ ι w v->(∀i∈r.ids,(aG J i).live=true)->
  ∃ax aJ,hj φ ι w J n ax aJ aB aE/\gX.rel ax aJ w v/\ ∀i∈gX.ids,(aG aB i).live=true:=by
 intro d r gX v φ ι J n aB aE e aN h ar ad;unfold Bz at e;split at e
 ·rename_i t r;obtain ⟨x,H1,cG,M,V⟩:=HM.go_bind_some e;obtain ⟨rfl,rfl,rfl⟩:=go_ret V;have s:=Gm M h ar ad;clear M e V;obtain ⟨q,dF,g,a8⟩:=s;subst q;exact ⟨dF,ι,hj.ghost g aN,h3 a8,by simp[K.ids]⟩
 ·rename_i a b ch t;simp only[HM.go]at e;obtain ⟨rfl,rfl,rfl⟩:=go_ret e;have ar:v=.slice none 0 0:=ar;subst ar;exact hj.of_yld (U9 h u (by rw[aN,pv (ca _)];rfl)) aN
 ·rename_i a b t o E;simp only[HM.go]at e;split at e
  ·rename_i ch ae xs ab;simp only[HM.go]at e;obtain ⟨rfl,rfl,rfl⟩:=go_ret e;exact atc h ar ab aN
  ·simp[HM.go]at e
 ·rename_i a b t o aR E _;simp only[HM.go]at e;split at e
  ·rename_i ch ae xs ab;have s:=go_bif e;clear e;obtain ⟨hu,e⟩:=s;have hu:ae=t:=by simpa using hu
   subst hu;simp only[HM.go]at e;obtain ⟨rfl,rfl,rfl⟩:=go_ret e;exact atb h ar ab aN
  ·simp[HM.go]at e
 ·rename_i l m;obtain ⟨rI,H1,cG,M,V⟩:=HM.go_bind_some e;obtain ⟨rfl,rfl,rfl⟩:=go_ret V;obtain ⟨cs,rfl,ar⟩:=ar;obtain ⟨dF,fo,t,bf,a6⟩:=Z0 l m rI cs.toList φ ι J n _ _ M aN h ar (λi E=>ad i (by simpa [K.ids] using E));exact ⟨dF,fo,t,Hh ⟨cs,rfl,bf⟩,λi E=>a6 i (by simpa [K.ids] using E)⟩
 ·obtain ⟨rfl,rfl,rfl⟩:=go_ret e;exact ⟨φ,ι,hj.refl h aN,ar,ad⟩
theorem Z0 [Env]: ∀(d:List cw) (l fG:List K) (cs:List aA) (φ:bP) (ι:Nat->aA) (J:List aH) (n:Nat) (aB:List aH) (aE:Nat),(G6 d l).go J n=some (fG,aB,aE)->n=J.length->ck φ ι w J->K.relL φ ι w l cs->(∀i∈K.idsL l,(aG J i).live=true)->
  ∃ax aJ,hj φ ι w J n ax aJ aB aE/\K.relL ax aJ w fG cs/\ ∀i∈K.idsL fG,(aG aB i).live=true:=by
 intro d l fG cs φ ι J n aB aE e aN h ar ad;unfold G6 at e;split at e
 ·rename_i d mE r rs;obtain ⟨ah,H1,cG,M,V⟩:=HM.go_bind_some e;obtain ⟨dH,fg,dq,aY,bp⟩:=HM.go_bind_some V;obtain ⟨rfl,rfl,rfl⟩:=go_ret bp;obtain ⟨v,ba,rfl,q,G⟩:=ar;obtain ⟨dF,fo,t1,bf,a6⟩:=Nu d r ah v φ ι J n H1 cG M aN h q (λi E=>ad i (by simp[K.idsL,E]));obtain ⟨eh,en,t2,cq,ef⟩:=Z0 mE rs dH ba dF fo H1 cG _ _ aY t1.top t1.rel (K.relL_mono t1.step.phi t1.step.cells rs ba (λi E=>t1.keep.iota i (ad i (by simp[K.idsL,E]))) G) (λi E=>t1.keep.live i (ad i (by simp[K.idsL,E])));refine ⟨eh,en,t1.trans t2,⟨v,ba,rfl,K.rel_step t2.step t2.keep a6 bf,cq⟩,λi E=> ?_⟩;simp only[K.idsL,dn]at E;rcases E with E |E
  ·exact t2.keep.live i (a6 i E)
  ·exact ef i E
 ·obtain ⟨rfl,rfl,rfl⟩:=go_ret e;exact ⟨φ,ι,hj.refl h aN,ar,ad⟩
end
end
open Go.RowKit
def mR (φ:bP) (ι:Nat->aA) (w:bm) (J:List aH) (R:bS) (jO:Nat->aA):Prop:= ∀I r,R.get I=some r->r.rel φ ι w (jO I)/\ ∀i∈r.ids,(aG J i).live=true
def ih (m:Nat) (ι:Nat->aA) (J:List aH) (aJ:Nat->aA) (aB:List aH):Prop:= ∀o,o<m->(aG J o).live=true->aJ o=ι o/\(aG aB o).live=true
def gW (m:Nat) (J:List aH):Prop:= ∀o,o<m->(aG J o).live=true
theorem eo.keepM {ι aJ:Nat->aA} {J aB:List aH} (k:eo ι J aJ aB) (m:Nat):ih m ι J aJ aB:=λo _ h=>⟨k.iota o h,k.live o h⟩
theorem ih.refl (m:Nat) (ι:Nat->aA) (J:List aH):ih m ι J ι J:=λ_ _ h=>⟨rfl,h⟩
theorem ih.trans {m:Nat} {ι aJ hM:Nat->aA} {J aB mM:List aH} (h:ih m ι J aJ aB) (k:ih m aJ aB hM mM):ih m ι J hM mM:=
 λo ab ad=>let ⟨q,G⟩:=h o ab ad;let ⟨bf,a6⟩:=k o ab G;⟨bf.trans q,a6⟩
theorem ih.live {m:Nat} {ι aJ:Nat->aA} {J aB:List aH} (k:ih m ι J aJ aB) (l:gW m J):gW m aB:=λo ab=>(k o ab (l o ab)).2
section
variable {φ:bP} {ι:Nat->aA} {w:bm} {J:List aH} {n:Nat} {aB:List aH} {aE:Nat} {jO:Nat->aA}
theorem mR.step {ax:bP} {aJ:Nat->aA} {aq:bm} {R:bS} (d:Step φ ι w J ax aJ aq aB) (k:eo ι J aJ aB) (h:mR φ ι w J R jO):mR ax aJ aq aB R jO:=
 λI r ar=>⟨K.rel_step d k (h I r ar).2 (h I r ar).1,λi E=>k.live i ((h I r ar).2 i E)⟩
theorem anz [Env]: ∀(os:List Nat) (mE:List dX) (ae:Unit) (φ:bP) (ι:Nat->aA) (J:List aH) (n:Nat) (aB:List aH) (aE:Nat),(rL os mE).go J n=some (ae,aB,aE)->n=J.length->ck φ ι w J->
  ∃ax aJ,hj φ ι w J n ax aJ aB aE:=by
 intro os mE ae φ ι J n aB aE e aN h
 induction os generalizing mE φ ι J n with
 |nil=>
  unfold rL at e;obtain ⟨-,rfl,rfl⟩:=go_ret e;exact ⟨φ,ι,hj.refl h aN⟩
 |cons o l aO=>
  unfold rL at e;split at e
  ·rename_i dV fG azD t0 d m heq;injection heq with bq bU
   subst bq bU;simp only[HM.go]at e;split at e
   ·rename_i lC t1 r L;obtain ⟨gX,H1,cG,M,V⟩:=HM.go_bind_some e;have dC:=h.obj o;rw[L]at dC;obtain ⟨b,cur,c7,v,g1,g2,g3,g4,g5,g6,g7,g8,g9⟩:=dC;have ft:(aG J o).live=true:=by rw[L];rfl
    obtain ⟨dF,fo,t,bf,a6⟩:=Nu d r gX v φ ι J n H1 cG M aN h g6 (λi E=>h.idsB o lC t1 r L i E);clear e M;simp only[HM.go]at V;split at V
    ·rename_i T t2 aS eG;have s:=go_bif V;clear V;obtain ⟨aM,aY⟩:=s;simp only[HM.go]at aY;have CZ:=t.rel.obj o;rw[eG]at CZ;obtain ⟨bZ,auf,aeB,lz,f1,f2,f3,f4,f5,f6,f7,f8,f9⟩:=CZ;have CT:o<H1.length:=gP (by rw[eG];rfl);have jt:fo o=ι o:=t.keep.iota o ft;rw[jt,g1]at f1;have p2:b=bZ:=by simpa using f1
     subst p2;have vq:cur=auf/\c7=aeB:=by
      rw[g2]at f2;have f2:=eY f2;injection f2 with bq bU dD
      exact ⟨bq,dD⟩
     obtain ⟨rfl,rfl⟩:=vq;have bR: ∀i,aG (cc H1 o (.box T t2 gX)) i=if i=o then .box T t2 gX else aG H1 i:=λi=>gO H1 o _ i (Nat.le_of_lt CT)
     have m6: ∀i,(aG (cc H1 o (.box T t2 gX)) i).owns=(aG H1 i).owns:=λi=>by
      rw[bR];split
      ·rename_i e;subst e;rw[eG];rfl
      ·rfl
     have e4: ∀i,(aG (cc H1 o (.box T t2 gX)) i).live=(aG H1 i).live:=λi=>by
      rw[bR];split
      ·rename_i e;subst e;rw[eG];rfl
      ·rfl
     have ek:ck dF fo w (cc H1 o (.box T t2 gX)):=by
      refine t.rel.update (λi=>i=o) (λi E=>by rw[bR,if_neg E]) (λ_ _=>rfl) (λi E=>by rw[e4];exact E) (λi E=> ?_) (λi E j al=> ?_) (λ_ _ _ _ _=>rfl) (λ_ _ _=>rfl) (λi j bZ _ q G W aC=> ?_)
      ·subst E;rw[bR,if_pos rfl];exact ⟨b,cur,c7,v,jt.trans g1,f2,f3,f4,f5,bf,g7,aM,f9⟩
      ·subst E;rw[bR,if_pos rfl]at al;rw[e4];exact a6 j al
      ·rw[m6]at q G;exact t.rel.apart i j bZ q G W aC
     have t2:hj dF fo w H1 cG dF fo (cc H1 o (.box T t2 gX)) cG:=
      ⟨ek,⟨λ_ _ h=>h,λ_ _ _=>rfl,λ_ _ h=>.inl h,ca _,rfl,rfl,rfl,λ_ _ _=>rfl,λb ⟨i,q,G⟩=>.inr ⟨i,by rw[<-m6];exact q,G⟩⟩,⟨λ_ _=>rfl,λi E=>by rw[e4];exact E⟩,by rw[ik H1 o _ CT];exact t.top⟩
     obtain ⟨mK,mJ,t3⟩:=aO m dF fo _ cG aY t2.top ek;exact ⟨mK,mJ,(t.trans t2).trans t3⟩
    ·simp[HM.go]at V
   ·simp[HM.go]at e
  ·rename_i dV fG ch t0 m heq;injection heq with bq bU
   subst bq bU;simp only[HM.go]at e;split at e
   ·rename_i M t1 xs fz L;simp only[HM.go]at e;obtain ⟨dF,g,-⟩:=Nw h o (gP (by rw[L];rfl));have t1:=hj.ghost g aN;obtain ⟨mK,mJ,t3⟩:=aO m dF ι _ n e t1.top g.rel;exact ⟨mK,mJ,t1.trans t3⟩
   ·simp[HM.go]at e
  ·rename_i dV fG m heq;injection heq with bq bU
   subst bq bU;simp only[HM.go]at e;split at e
   ·rename_i M t1 xs fz L;simp only[HM.go]at e;have CT:o<J.length:=gP (by rw[L];rfl);have bR: ∀i,aG (cc J o .gone) i=if i=o then .gone else aG J i:=λi=>gO J o _ i (Nat.le_of_lt CT)
    have m6: ∀i,(aG (cc J o .gone) i).owns=true->(aG J i).owns=true:=λi=>by
     rw[bR];split
     ·intro an;cases an
     ·exact λan=>an
    have e4: ∀i,(aG (cc J o .gone) i).live=(aG J i).live:=λi=>by
     rw[bR];split
     ·rename_i e;subst e;rw[L];rfl
     ·rfl
    have ek:ck φ ι w (cc J o .gone):=by
     refine h.update (λi=>i=o) (λi E=>by rw[bR,if_neg E]) (λ_ _=>rfl) (λi E=>by rw[e4];exact E) (λi E=> ?_) (λi E j al=> ?_) (λ_ _ _ _ _=>rfl) (λ_ _ _=>rfl) (λi j bZ E q G W aC=> ?_)
     ·subst E;rw[bR,if_pos rfl];exact trivial
     ·subst E;rw[bR,if_pos rfl]at al;simp[aH.ids]at al
     ·subst E;rw[bR,if_pos rfl]at q;cases q
    have t2:hj φ ι w J n φ ι (cc J o .gone) n:=
     ⟨ek,⟨λ_ _ h=>h,λ_ _ _=>rfl,λ_ _ h=>.inl h,ca _,rfl,rfl,rfl,λ_ _ _=>rfl,λb ⟨i,q,G⟩=>.inr ⟨i,m6 i q,G⟩⟩,⟨λ_ _=>rfl,λi E=>by rw[e4];exact E⟩,by rw[ik J o _ CT];exact aN⟩
    obtain ⟨mK,mJ,t3⟩:=aO m φ ι _ n e t2.top ek;exact ⟨mK,mJ,t2.trans t3⟩
   ·exact aO m φ ι J n e aN h
  ·rename_i x fG y m ct aAd aAe heq;injection heq with bq bU
   subst bq bU;exact aO m φ ι J n e aN h
  ·obtain ⟨-,rfl,rfl⟩:=go_ret e;exact ⟨φ,ι,hj.refl h aN⟩
theorem bS.get_ren (ρ:Nat->Nat) (R:bS) (I:Nat):(R.ren ρ).get I=(R.get I).map (K.ren ρ):=by
 induction R with
 |nil=>rfl
 |cons p l aO=>
  obtain ⟨e,r⟩:=p;simp only[bS.ren,bS.get];cases Nat.beq I e
  ·simpa using aO
  ·rfl
theorem bS.get_ids {R:bS} {I:Nat} {r:K} (h:R.get I=some r): ∀i∈r.ids,i∈R.ids:=by
 induction R with
 |nil=>simp[bS.get]at h
 |cons p l aO=>
  obtain ⟨e,x⟩:=p;simp only[bS.get]at h;intro i E;simp only[bS.ids,dn];cases L:Nat.beq I e
  ·simp only[L,av]at h;exact .inr (aO h i E)
  ·simp only[L,aj,bM]at h;subst h;exact .inl E
theorem XZ [Env]: ∀(d:List (Nat×cw)) (R eT:bS) (φ:bP) (ι:Nat->aA) (J:List aH) (n:Nat) (aB:List aH) (aE:Nat),(AI d R).go J n=some (eT,aB,aE)->n=J.length->ck φ ι w J->mR φ ι w J R jO->
  ∃ax aJ,hj φ ι w J n ax aJ aB aE/\mR ax aJ w aB eT jO/\ ∀i∈eT.ids,(aG aB i).live=true
 |[],R,eT,φ,ι,J,n,aB,aE,e,aN,h,ar=>by simp only[AI]at e;obtain ⟨rfl,rfl,rfl⟩:=go_ret e;exact ⟨φ,ι,hj.refl h aN,λI r ao=>by simp[bS.get]at ao,by simp[bS.ids]⟩
 |(I,d)::l,R,eT,φ,ι,J,n,aB,aE,e,aN,h,ar=>by
  simp only[AI]at e;split at e
  ·rename_i r ao;obtain ⟨ah,H1,cG,M,V⟩:=HM.go_bind_some e;obtain ⟨jG,fg,dq,aY,bp⟩:=HM.go_bind_some V;obtain ⟨rfl,rfl,rfl⟩:=go_ret bp;obtain ⟨dF,fo,t1,bf,a6⟩:=Nu d r ah (jO I) φ ι J n H1 cG M aN h (ar I r ao).1 (ar I r ao).2;obtain ⟨eh,en,t2,cq,ef⟩:=XZ l R jG dF fo H1 cG _ _ aY t1.top t1.rel (ar.step t1.step t1.keep);refine ⟨eh,en,t1.trans t2,λe x an=> ?_,λi E=> ?_⟩
   ·simp only[bS.get]at an;cases L:Nat.beq e I
    ·simp only[L,av]at an;exact cq e x an
    ·simp only[L,aj,bM]at an;have:e=I:=by simpa using L
     subst this an;exact ⟨K.rel_step t2.step t2.keep a6 bf,λi E=>t2.keep.live i (a6 i E)⟩
   ·simp only[bS.ids,dn]at E;rcases E with E |E
    ·exact t2.keep.live i (a6 i E)
    ·exact ef i E
  ·simp[HM.go]at e
theorem abb [Env] {S:Shape} {m:Nat} {R:bS} {bb:bX} (e:(Hz S m R).go J n=some (bb,aB,aE)) (aN:n=J.length) (h:ck φ ι w J) (ar:mR φ ι w J R jO) (hm:gW m J):
  ∃ax aJ,ck ax aJ w bb.heap/\mR ax aJ w bb.heap bb.regs jO/\Step φ ι w J ax aJ w bb.heap/\ih m ι J aJ bb.heap/\gW m bb.heap/\m<=bb.heap.length/\gW bb.heap.length bb.heap:=by
 unfold Hz at e;obtain ⟨jG,H1,cG,M,V⟩:=HM.go_bind_some e;obtain ⟨dF,fo,t1,bf,a6⟩:=XZ S.regs R jG φ ι J n H1 cG M aN h ar;clear e;obtain ⟨p,fg,dq,aY,bp⟩:=HM.go_bind_some V;clear V;obtain ⟨g1,g2,-⟩:=zE 200 _ [] [] p fg dq aY rfl aU aU;rw[g1,g2]at bp;obtain ⟨ae,l5,n3,cV,da⟩:=HM.go_bind_some bp;clear bp;obtain ⟨eh,en,t2⟩:=anz p.1 S.objs ae dF fo H1 cG l5 n3 cV t1.top t1.rel;have t:=t1.trans t2;obtain ⟨s,KY,n4,gr,kH⟩:=HM.go_bind_some da;clear da;have RG:gW m l5:=λo ab=>t.keep.live o (hm o ab)
 have gs:=zE 200 _ [] [] s KY n4 gr rfl aU aU;obtain ⟨-,-,mZ,ea,-,gF⟩:=gs;have RI:=gF t.rel.live_ids (λi E=>by
  rcases dn.1 E with E |E
  ·exact RG i (ac1.1 E)
  ·exact t2.keep.live i (a6 i E)) aU
 obtain ⟨cW,Rw⟩:=aak (k6 m) 200 jG.ids [] [] s KY n4 gr (by simpa using as2 m);rw[List.nil_append]at Rw;obtain ⟨rfl,-,-⟩:=go_ret kH;have cq:mR eh en w l5 jG jO:=bf.step t2.step t2.keep;have afm: ∀o,o<m->s.1[o]? =some o:=λo ab=>by rw[Rw,List.getElem?_append_left (by rw[adp];exact ab)];exact akX ab
 have hlen:(s.2.map (aH.ren (idx s.1))).length=s.1.length:=by rw[mZ.obs];simp
 refine ⟨eh,k5 en s.1,aea t.rel mZ RI,λI r ao=> ?_,t.step.trans (aka mZ),λo ab ft=> ?_,λo ab=> ?_,?_,λo ab=>ad9 mZ RI o ab⟩
 ·simp only[bS.get_ren,ib]at ao;obtain ⟨x,an,rfl⟩:=ao;have afT: ∀i∈x.ids,i∈s.1:=λi E=>ea i (dn.2 (.inr (bS.get_ids an i E)))
  refine ⟨K.ren_rel _ x _ (λi E=>GX (afT i E)) (cq I x an).1,?_⟩;rw[K.ren_ids];exact adC mZ RI afT
 ·have q:=afm o ab;refine ⟨?_,?_⟩
  ·have:k5 en s.1 o=en o:=by simp[k5,jQ,q]
   rw[this];exact t.keep.iota o ft
  ·show (aG (kE s.1 s.2) o).live=true;rw[nU mZ q,aH.ren_live];exact RG o ab
 ·show (aG (kE s.1 s.2) o).live=true;rw[nU mZ (afm o ab),aH.ren_live];exact RG o ab
 ·simp only[hlen];rw[Rw,et,adp];omega
theorem ajA [Env] (h:ck φ ι w J) {o:Nat} {e:bs} {t:az} {xs:List t.den} {fz:Bool} (ab:aG J o=.arr e t xs fz) (aN:n=J.length):
  hj φ ι w J n φ (ej ι n (ι o)) (cc (cc J o .gone) n (.arr e t xs fz)) (n+1):=by
 have dC:=h.obj o;rw[ab]at dC;have oH:(aG J o).owns=true:=by rw[ab];rfl
 have h5:(aG J n).live=false:=by rw[aN,pv (ca _)];rfl
 obtain ⟨bf,a6,cq,ef⟩:=xw (ax:=φ) (aq:=w) h oH u h5 (v:=ι o) (dh:=.arr e t xs fz) rfl rfl rfl rfl rfl (ca _) (λ_ _ _=>rfl) (λ_ _ h=>h) (λ_ _ _=>rfl) (λ_ _ h=>.inl h)
  (λb L=>.inr L) (by obtain ⟨A,m,c,f1,f2⟩:=dC;exact ⟨A,m,c,by simpa [ej] using f1,f2⟩)
 exact ⟨bf,a6,cq,(ef.seq aN).symm⟩
theorem Kp [Env]: ∀(l:List dX) (o:Nat) (s:List (Nat×Nat)) (ι:Nat->aA) (J:List aH) (n:Nat) (aB:List aH) (aE:Nat),(uF l o).go J n=some (s,aB,aE)->n=J.length->ck φ ι w J->
  ∃aJ,hj φ ι w J n φ aJ aB aE/\(s=[]->aB=J/\aE=n/\aJ=ι)/\ ∀i,(aG aB i).live=true->aJ (fwd s i)=aJ i/\(aG aB (fwd s i)).live=true
 |[],o,s,ι,J,n,aB,aE,e,aN,h=>by simp only[uF]at e;obtain ⟨rfl,rfl,rfl⟩:=go_ret e;exact ⟨ι,hj.refl h aN,λ_=>⟨rfl,rfl,rfl⟩,λi E=>⟨rfl,E⟩⟩
 |d::l,o,s,ι,J,n,aB,aE,e,aN,h=>by
  by_cases af:d=.gone
  ·subst af;simp only[uF,HM.go]at e;split at e
   ·rename_i ch t xs fz dC;simp only[HM.go]at e;obtain ⟨bU,fg,dq,M,V⟩:=HM.go_bind_some e;obtain ⟨rfl,rfl,rfl⟩:=go_ret V;have lC:=ajA h dC aN;have ft:(aG J o).live=true:=by rw[dC];rfl
    have bw:=gP ft;obtain ⟨aJ,dY,-,W⟩:=Kp l (o+1) bU _ _ _ _ _ M lC.top lC.rel;refine ⟨aJ,lC.trans dY,⟨λaP=>(by cases aP),λi E=> ?_⟩⟩;have mr:o≠n:=u;have afk:(aG (cc (cc J o .gone) n (.arr ch t xs fz)) n).live=true:=by rw[gO _ n _ n (by rw[ik J o _ bw];omega),if_pos rfl];rfl
    simp only[fwd];cases L:Nat.beq i o
    ·simp only[av];exact W i E
    ·simp only[aj];have:i=o:=by simpa using L
     subst this;refine ⟨?_,dY.keep.live _ afk⟩;rw[dY.keep.iota _ afk,dY.keep.iota _ (lC.keep.live _ ft),lC.keep.iota _ ft];simp[ej]
   ·exact Kp l (o+1) s ι J n aB aE e aN h
  ·refine Kp l (o+1) s ι J n aB aE ?_ aN h;cases d with
   |gone=>exact absurd rfl af
   |_=>exact e
theorem Mh [Env] {ρ:Nat->Nat}: ∀(l:List Nat) (ae:Unit) (J:List aH) (n:Nat) (aB:List aH) (aE:Nat),(xl ρ l).go J n=some (ae,aB,aE)->n=J.length->ck φ ι w J->(∀i,(aG J i).live=true->ι (ρ i)=ι i/\(aG J (ρ i)).live=true)->
  hj φ ι w J n φ ι aB aE
 |[],ae,J,n,aB,aE,e,aN,h,Dg=>by simp only[xl]at e;obtain ⟨-,rfl,rfl⟩:=go_ret e;exact hj.refl h aN
 |o::l,ae,J,n,aB,aE,e,aN,h,Dg=>by
  simp only[xl,HM.go]at e;split at e
  ·rename_i T t r dC;simp only[HM.go]at e;have bw:o<J.length:=gP (by rw[dC];rfl);have bR: ∀i,aG (cc J o (.box T t (r.ren ρ))) i=if i=o then .box T t (r.ren ρ) else aG J i:=λi=>gO J o _ i (Nat.le_of_lt bw)
   have m6: ∀i,(aG (cc J o (.box T t (r.ren ρ))) i).owns=(aG J i).owns:=λi=>by
    rw[bR];split
    ·rename_i e;subst e;rw[dC];rfl
    ·rfl
   have e4: ∀i,(aG (cc J o (.box T t (r.ren ρ))) i).live=(aG J i).live:=λi=>by
    rw[bR];split
    ·rename_i e;subst e;rw[dC];rfl
    ·rfl
   have fs: ∀i∈r.ids,(aG J i).live=true:=λi E=>h.idsB o T t r dC i E
   have ek:ck φ ι w (cc J o (.box T t (r.ren ρ))):=by
    refine h.update (λi=>i=o) (λi E=>by rw[bR,if_neg E]) (λ_ _=>rfl) (λi E=>by rw[e4];exact E) (λi E=> ?_) (λi E j al=> ?_) (λ_ _ _ _ _=>rfl) (λ_ _ _=>rfl) (λi j bZ _ q G W aC=> ?_)
    ·subst E;rw[bR,if_pos rfl];have an:=h.obj i;rw[dC]at an;obtain ⟨b,cur,c7,v,g1,g2,g3,g4,g5,g6,g7,g8,g9⟩:=an;exact ⟨b,cur,c7,v,g1,g2,g3,g4,g5,K.ren_rel ρ r v (λj al=>(Dg j (fs j al)).1) g6,g7,by rw[K.ren_fits];exact g8,g9⟩
    ·subst E;rw[bR,if_pos rfl]at al;have al:j∈(r.ren ρ).ids:=al;rw[K.ren_ids]at al;obtain ⟨k,ag,rfl⟩:=List.mem_map.1 al;rw[e4];exact (Dg k (fs k ag)).2
    ·rw[m6]at q G;exact h.apart i j bZ q G W aC
   have lC:hj φ ι w J n φ ι (cc J o (.box T t (r.ren ρ))) n:=
    ⟨ek,⟨λ_ _ h=>h,λ_ _ _=>rfl,λ_ _ h=>.inl h,ca _,rfl,rfl,rfl,λ_ _ _=>rfl,λb ⟨i,q,G⟩=>.inr ⟨i,by rw[<-m6];exact q,G⟩⟩,⟨λ_ _=>rfl,λi E=>by rw[e4];exact E⟩,by rw[ik J o _ bw];exact aN⟩
   exact lC.trans (Mh l ae _ n _ _ e lC.top ek (λi E=>by rw[e4]at E ⊢;exact Dg i E))
  ·exact Mh l ae J n aB aE e aN h Dg
theorem abQ [Env] {S:Shape} {m:Nat} {R:bS} {bb:bX} (e:(Ay S m R).go J n=some (bb,aB,aE)) (aN:n=J.length) (h:ck φ ι w J) (ar:mR φ ι w J R jO) (hm:gW m J):
  ∃ax aJ,ck ax aJ w bb.heap/\mR ax aJ w bb.heap bb.regs jO/\Step φ ι w J ax aJ w bb.heap/\ih m ι J aJ bb.heap/\gW m bb.heap/\m<=bb.heap.length/\gW bb.heap.length bb.heap:=by
 unfold Ay at e;obtain ⟨s,H1,cG,M,V⟩:=HM.go_bind_some e;obtain ⟨fo,lC,bW,aM⟩:=Kp _ 0 s ι J n H1 cG M aN h;split at V
 ·obtain ⟨rfl,rfl,rfl⟩:=bW rfl;exact abb V aN h ar hm
 ·obtain ⟨p,fg,dq,aY,bp⟩:=HM.go_bind_some V;obtain ⟨g1,g2,-⟩:=zE 200 _ [] [] p fg dq aY rfl aU aU;rw[g1,g2]at bp;obtain ⟨ae,l5,n3,cV,da⟩:=HM.go_bind_some bp;have dY:=Mh p.1 ae H1 cG l5 n3 cV lC.top lC.rel aM;have T:=lC.trans dY;have awe:mR φ fo w l5 (R.ren (fwd s)) jO:=by intro I r ao;rw[bS.get_ren]at ao;obtain ⟨x,an,rfl⟩:=ib.1 ao;obtain ⟨bf,a6⟩:=ar.step lC.step lC.keep I x an;refine ⟨K.ren_rel _ x _ (λi E=>(aM i (a6 i E)).1) bf,λi E=> ?_⟩;rw[K.ren_ids]at E;obtain ⟨j,al,rfl⟩:=List.mem_map.1 E;exact dY.keep.live _ (aM j (a6 j al)).2
  have vu:gW m l5:=λo ab=>T.keep.live o (hm o ab)
  obtain ⟨ax,aJ,dr,a2,a3,a4,a5,om,AD⟩:=abb da T.top T.rel awe vu;exact ⟨ax,aJ,dr,a2,T.step.trans a3,λo ab ad=>⟨((a4 o ab (vu o ab)).1).trans (T.keep.iota o ad),(a4 o ab (vu o ab)).2⟩,a5,om,AD⟩
theorem lM [Env] {S:Shape} {m:Nat} {nt:jD} {st:bX} {a:Act} {d:S.ty.den} (e:(S.take m st).val=some d) (cr:dv φ ι w nt st a) (hm:gW m st.heap):
  ∃ax aJ,dv ax aJ w nt (S.enc d) a/\Step φ ι w st.heap ax aJ w (S.enc d).heap/\ih m ι st.heap aJ (S.enc d).heap/\m<=(S.enc d).heap.length/\gW (S.enc d).heap.length (S.enc d).heap:=by
 unfold Shape.take at e;obtain ⟨⟨bb,cy,aE,hv⟩,M,V⟩:=DT.val_bind_some e;simp only[DT.val_ofOpt]at V;have aY:=Shape.dec_enc V;obtain ⟨ax,aJ,bf,a6,cq,ef,gS,iv,rC⟩:=abQ (jO:=nh a) (HM.go_run _ _ _ _ _ _ _ _ M) rfl cr.heap cr.regs hm;rw[aY];exact ⟨ax,aJ,⟨bf,a6,cr.nt,cr.small,cr.defers.step cq⟩,cq,ef,iv,rC⟩
end
open Go.RowKit
def hB (nt:Nat):Code->Bool
 | .region _ ops _=>ops.toList.all (pS nt)
 | .seq a b=>hB nt a&&hB nt b
 | .cond _ a b=>hB nt a&&hB nt b
 | .block _ c=>hB nt c
 | .loop c=>hB nt c
 | .scope c=>hB nt c
 |_=>true
section
variable {P:cA} {bx:Exit->Act->bm->Prop} {a:Act} {w:bm}
variable {F:Fence} {n:Nat}
theorem zy {c:Code} {b:Frame} {k:List Item} {cs:List Frame}:step P (lone (b.atR a (.code (.scope c)::k)) cs w)=.next (lone (b.atR a (.code c:: .inScope c::k)) cs w):=
 step_lone_go (by simp[stepG,stepG.exec,Frame.atR])
theorem aqm {c:Code} {b:Frame} {k:List Item} {cs:List Frame}:step P (lone (b.atR a (.inScope c::k)) cs w)=.next (lone (b.atR a k) cs w):=
 step_lone_go (by simp[stepG,stepG.exec,Frame.atR])
def ale (bx:Exit->Act->bm->Prop):Exit->Act->bm->Prop
 | .goto _,_,_=>False
 |e,a,w=>bx e a w
theorem abt {c:Code} (h:c.wpIn F n P (ale bx) a w):(Code.scope c).wpIn F n P bx a w:=by
 intro b k cs cu L ar;have bW:(lone (b.atR a (.code (.scope c)::k)) cs w).fenced P F:=fenced_calm L ar rfl;obtain ⟨e,BQ,EF,aP,hT⟩:=h b (.inScope c::k) cs cu L ar;cases e with
 |normal=>exact ⟨.normal,BQ,EF,aP,.head bW zy (StepsIn.trans hT (.one (fenced_calm L ar rfl) aqm))⟩
 |exit id=>
  have an:exitTo id (.inScope c::k)=exitTo id k:=by simp[exitTo]
  exact ⟨.exit id,BQ,EF,aP,λeD ag=>.head bW zy (hT.1 eD (by rw[an];exact ag)),
   λvA ag=>let ⟨k₁,q,G⟩:=hT.2 vA (by rw[an];exact ag);⟨k₁,q,.head bW zy G⟩⟩
 |goto l=>exact aP.elim
 |ret=>exact ⟨_,BQ,EF,aP,.of_steps (.one bW zy) hT⟩
 |panic mg=>exact ⟨_,BQ,EF,aP,.of_steps (.one bW zy) hT⟩
 |outgrown=>exact ⟨_,BQ,EF,aP,.of_steps (.one bW zy) hT⟩
end
def k3:ei->Exit
 | .nrm=>.normal | .exit i=>.exit i | .ret=>.ret
section
variable {P:cA} {cx:cm} {Γ:hN} {φ:bP} {ι:Nat->aA} {w:bm} {nt:jD} {st bb:bX} {a:Act} {ops:Array Oper}
theorem asq (J:List aH) (k i:Nat):aG (J++List.replicate k .hole) i=aG J i:=by
 unfold aG;simp only[jQ];rcases Nat.lt_or_ge i J.length with h |h
 ·rw[List.getElem?_append_left h]
 ·rw[List.getElem?_append_right h,List.getElem?_eq_none h];rcases Nat.lt_or_ge (i-J.length) k with G |G
  ·simp[List.getElem?_replicate,G]
  ·simp[List.getElem?_replicate,Nat.not_lt.2 G]
theorem arj [Env] (tab:cT P cx) (c8:cd P Γ) (hm:P.follows .mixedOrders=true) {draw:Bool} {id:Nat} {bx:Exit->Act->bm->Prop} (e:(Ph cx Γ ops draw st).val=some bb) (d:dv φ ι w nt st a) (ao:ops.toList.all (pS nt.n)=true) (jW:ops.toList.any u7=true->nt.df)
  (k: ∀bt aq ax aJ,dv ax aJ aq nt bb bt->Step φ ι w st.heap ax aJ aq bb.heap->eo ι st.heap aJ bb.heap->bx .normal bt aq):(Code.region id ops draw).wpIn (e9 nt.ro) 0 P bx a w:=by
 unfold Ph at e;cases draw
 ·simp only[av]at e;exact wpIn_region_list (FQ tab c8 ops.toList st bb φ ι w a e d ao jW k)
 ·simp only[aj]at e;obtain ⟨⟨dM,Q⟩,M,V⟩:=DT.val_bind_some e;clear e;simp only at V;cases L:uR (kx ops.toList) 0 Q&&xt 0 ops.toList
  ·simp[L,DT.val]at V
  ·simp only[L,aj,DT.val,bM]at V;subst V;simp only[bQ]at L;obtain ⟨bq,bU,dD,dx⟩:=aaU (ay:=st.heap.length+slotsOf*ops.size) ops.toList 0 _ dM [] Q M rfl (λk=>aU) aU;have oB: ∀x y,x<y->y<ops.size->((kx ops.toList).getD y 0).testBit x=true\/Hp ops (qN Q) x y:=by
    intro x y te bu;have hlen:Q.length=ops.size:=by rw[bq];simp
    have C9:x<Q.length:=u;have Db:y<Q.length:=u;have ex:Q[x]? =some Q[x]:=hx C9;have Qq:Q[y]? =some Q[y]:=hx Db;rcases abK Q 0 L.1 x y _ _ te ex Qq with h |h
    ·left;simpa using h
    ·right;simp only[np.apart,bQ]at h;obtain ⟨⟨⟨⟨⟨⟨⟨q,G⟩,W⟩,aC⟩,bd⟩,bD⟩,dU⟩,gB⟩:=h;have Cr:qN Q x=Q[x].fp:=by simp[qN,ex]
     have Cs:qN Q y=Q[y].fp:=by simp[qN,Qq]
     refine ⟨λaxo axp av8 av9=> ?_,?_,?_,?_,?_,?_⟩
     ·have nx:=dD x axo _ (by simpa using av8) (by rw[Nat.zero_add];exact ex);have SQ:=dD y axp _ (by simpa using av9) (by rw[Nat.zero_add];exact Qq);rw[nx.1,SQ.2]at q;rw[nx.1,SQ.1]at G;rw[nx.2,SQ.1]at W;refine ⟨λI ao=>⟨tW q I (by simp[ao]),λlh=> ?_⟩,λI ao hu=> ?_⟩
      ·exact tW G I (by simp[ao]) (by simp[lh])
      ·exact tW W I hu (by simp[ao])
     ·rw[Cr,Cs];exact tW bD
     ·rw[Cr,Cs];exact tW aC
     ·rw[Cr,Cs];exact tW bd
     ·rw[Cr,Cs];intro o ab iG;exact tW dU o iG ab
     ·rw[Cr,Cs];intro o ab iG;exact tW gB o iG ab
   have bR:=asq st.heap (slotsOf*ops.size);have ek:ck φ ι {w with drawn:=w.drawn+1} (st.heap++List.replicate (slotsOf*ops.size) .hole):=
    d.heap.update (λ_=>False) (λi _=>bR i) (λ_ _=>rfl) (λi h=>by rw[bR];exact h) (λ_ h=>h.elim) (λ_ h=>h.elim) (λ_ _ _ _ _=>rfl) (λ_ _ _=>rfl) (λ_ _ _ h=>h.elim)
   have gT:Step φ ι w st.heap φ ι {w with drawn:=w.drawn+1} (st.heap++List.replicate (slotsOf*ops.size) .hole):=
    ⟨λ_ _ h=>h,λ_ _ _=>rfl,λ_ _ h=>.inl h,ca _,rfl,rfl,rfl,λ_ _ _=>rfl,λb ⟨i,q,G⟩=>.inr ⟨i,by rw[<-bR];exact q,G⟩⟩
   have lx:dv φ ι {w with drawn:=w.drawn+1} nt ⟨st.regs,st.heap++List.replicate (slotsOf*ops.size) .hole⟩ a:=
    ⟨ek,λI r ar=>⟨K.rel_mono (φ:=φ) (ι:=ι) (w:=w) (aq:={w with drawn:=w.drawn+1}) (λ_ _ h=>h) (λ_ _ _=>rfl) r _ (λ_ _=>rfl) (d.regs I r ar).1,λi E=>by simp only[bR];exact (d.regs I r ar).2 i E⟩,d.nt,d.small,d.defers.step gT⟩
   have awR:eo ι st.heap ι (st.heap++List.replicate (slotsOf*ops.size) .hole):=⟨λ_ _=>rfl,λi h=>by rw[bR];exact h⟩;refine wpIn_region_any hm ?_;refine asI tab c8 (base:=st.heap.length) (ay:=st.heap.length+slotsOf*ops.size) (a7:=qN Q) ao L.2 oB (ca _) k ops.size _ (List.range' 0 ops.size) _ φ ι _ a aU List.pairwise_lt_range' aU (λi=> ?_) (λi q G=> ?_) (λi E c9 q G=> ?_) aU (by simpa using dx) lx gT awR
   ·simp only[List.mem_range'_1,Nat.zero_le,true_and,Nat.zero_add];constructor
    ·intro h;exact ⟨h,by simp[ji,h]⟩
    ·exact λh=>h.1
   ·exact absurd (by simp[List.mem_range'_1];exact q) G
   ·rw[bR,pv u];rfl
def e2:Code->Bool
 | .seq a b=>e2 a||e2 b
 | .cond _ a b=>e2 a||e2 b
 | .block _ c=>e2 c
 | .loop c=>e2 c
 | .scope c=>e2 c
 | .rangeFunc ..=>true
 |_=>false
def gD:Code->Bool
 | .region _ ops _=>ops.toList.any u7
 | .seq a b=>gD a||gD b
 | .cond _ a b=>gD a||gD b
 | .block _ c=>gD c
 | .loop c=>gD c
 | .scope c=>gD c
 |_=>false
structure iK (nt:jD) (c:Code):Prop where
 rf:e2 c=true->nt.rf
 df:gD c=true->nt.df
theorem iK.of {nt:jD} {c eF:Code} (h:iK nt c) (q:e2 eF=true->e2 c=true) (G:gD eF=true->gD c=true):iK nt eF:=⟨λx=>h.rf (q x),λx=>h.df (G x)⟩
theorem iK.fn {n b:Nat} {c:Code} (h:gD c=false):iK ⟨n,b,[],none,false⟩ c:=⟨λ_=>⟨rfl,rfl⟩,λx=>absurd (h.symm.trans x) aU⟩
theorem iK.no {nt:jD} {c:Code} (q:e2 c=false) (G:gD c=false):iK nt c:=⟨λx=>absurd (q.symm.trans x) aU,λx=>absurd (G.symm.trans x) aU⟩
theorem iK.fnD {n b:Nat} {c:Code} (h:e2 c=false):iK ⟨n,b,[],none,true⟩ c:=⟨λx=>absurd (h.symm.trans x) aU,λ_=>⟨rfl,rfl,rfl⟩⟩
def hq [Env] (P:cA) (F:bn) (n:Nat) (k:Nat) (c:Code):Prop:=
 ∀(nt:jD) (st:bX) (e:ei) (bb:bX) (φ:bP) (ι:Nat->aA) (w:bm) (a:Act) (bx:Exit->Act->bm->Prop),nt.n=n->iK nt (.loop c)->(F.Λ k st).val=some (e,bb)->dv φ ι w nt st a->gW F.m st.heap->
  (∀bt aq ax aJ,dv ax aJ aq nt bb bt->Step φ ι w st.heap ax aJ aq bb.heap->ih F.m ι st.heap aJ bb.heap->bx (k3 e) bt aq)->(Code.loop c).wpIn (e9 nt.ro) 0 P bx a w
theorem arI {ks:List Nat} {R:bS} {I:Nat} {r:K} (h:(ue ks R).get I=some r):R.get I=some r:=by
 induction R with
 |nil=>simp[ue,bS.get]at h
 |cons p l aO=>
  obtain ⟨e,x⟩:=p;simp only[ue]at h;simp only[bS.get];cases ag:has ks e
  ·simp only[ag,av]at h;cases L:Nat.beq I e
   ·simpa using aO h
   ·have M:I=e:=by simpa using L
    subst M;exfalso;have: ∀l:bS,(ue ks l).get I=none:=by
     intro l
     induction l with
     |nil=>rfl
     |cons p l aO=>
      obtain ⟨V,oV⟩:=p;simp only[ue];cases ku:has ks V
      ·simpa using aO
      ·simp only[aj,bS.get];cases eG:Nat.beq I V
       ·simpa using aO
       ·have:I=V:=by simpa using eG
        subst this;rw[ag]at ku;cases ku
    rw[this]at h;cases h
  ·simp only[ag,aj,bS.get]at h;cases L:Nat.beq I e
   ·simp only[L,av]at h ⊢;exact aO h
   ·simp only[L,aj]at h ⊢;exact h
theorem ZZ [Env] {t:Nat->aA}: ∀(R eT:bS) (φ:bP) (J:List aH) (n:Nat) (aB:List aH) (aE:Nat),(Bt R).go J n=some (eT,aB,aE)->ck φ ι w J->(∀s∈R,s.2.rel φ ι w (t s.1)/\ ∀i∈s.2.ids,(aG J i).live=true)->
  aE=n/\ ∃ax,ff φ ι w J ax aB/\ ∀s∈eT,s.2.rel ax ι w (t s.1)/\ ∀i∈s.2.ids,(aG aB i).live=true
 |[],eT,φ,J,n,aB,aE,e,h,aP=>by simp only[Bt]at e;obtain ⟨rfl,rfl,rfl⟩:=go_ret e;exact ⟨rfl,φ,ff.refl h,aU⟩
 |(I,r)::l,eT,φ,J,n,aB,aE,e,h,aP=>by
  simp only[Bt]at e;obtain ⟨ah,H1,cG,M,e⟩:=HM.go_bind_some e;obtain ⟨dH,fg,dq,V,e⟩:=HM.go_bind_some e;obtain ⟨rfl,rfl,rfl⟩:=go_ret e;obtain ⟨bW,auw⟩:=aP (I,r) aU;obtain ⟨rfl,dF,g1,C2,ys⟩:=aaJ M h bW auw;obtain ⟨rfl,eh,g2,p9⟩:=ZZ l dH dF H1 _ _ _ V g1.rel (λs hU=>by obtain ⟨bf,a6⟩:=aP s (by simp[hU]);exact ⟨K.rel_mono g1.step.phi g1.step.cells s.2 _ (λ_ _=>rfl) bf,λi E=>by rw[g1.live];exact a6 i E⟩)
  refine ⟨rfl,eh,g1.trans g2,λs hU=> ?_⟩;rcases fe.1 hU with rfl |hU
  ·exact ⟨K.rel_mono g2.step.phi g2.step.cells ah _ (λ_ _=>rfl) C2,λi E=>by rw[g2.live];exact ys i E⟩
  ·exact p9 s hU
theorem bS.get_mem {R:bS} {I:Nat} {r:K} (h:R.get I=some r):(I,r)∈R:=by
 induction R with
 |nil=>simp[bS.get]at h
 |cons p l aO=>
  obtain ⟨e,x⟩:=p;simp only[bS.get]at h;cases L:Nat.beq I e
  ·simp only[L,av]at h;exact gY _ (aO h)
  ·simp only[L,aj,bM]at h;have:I=e:=by simpa using L
   subst this h;simp
theorem EZ {R:bS}: ∀(us:List Nat) (s:Nat×K),s∈uJ R us->R.get s.1=some s.2/\s.1≠dK
 |[],s,h=>by simp[uJ]at h
 |I::us,s,h=>by
  simp only[uJ]at h;cases L:has us I||Nat.beq I dK
  ·simp only[L,av]at h;split at h
   ·rename_i r ar;rcases fe.1 h with rfl |h
    ·exact ⟨ar,λe=>by have e:I=dK:=e;simp only[Bool.or_eq_false_iff]at L;rw[e,Nat.beq_refl dK]at L;cases L.2⟩
    ·exact EZ us s h
   ·exact EZ us s h
  ·simp only[L,aj]at h;exact EZ us s h
theorem aa9 {p:Int} {st bb:bX} {e:ei}: ∀(l:List ei),(BC l p st).val=some (e,bb)->p=nW e/\bb=st
 |[],h=>by simp[BC,DT.val]at h
 |x::l,h=>by
  simp only[BC,DT.val]at h;cases L:decide (p=nW x)
  ·simp only[L,av]at h;exact aa9 l h
  ·simp only[L,aj,bM,c0]at h;obtain ⟨rfl,rfl⟩:=h;exact ⟨of_decide_eq_true L,rfl⟩
theorem Hf {e f:ei} (h:nW e=nW f):e=f:=by cases e<;>cases f<;>simp only[nW]at h<;>first |rfl |omega |(congr 1;omega)
theorem atj (e:ei):0<=nW e:=by cases e<;>simp[nW];omega
theorem jk.putObj (w:bm) (l:Nat) (o:Obj):jk w (w.putObj l o) l:=⟨rfl,rfl,rfl,by simp[World.putObj],λk ag=>World.putObj_heap_other ag⟩
theorem AZ {l fG:Nat} {a b c I:Array aA} (h:Value.func (.yield l) a b=Value.func (.yield fG) c I):l=fG:=by
 injection h with q
 injection q
theorem alS [Env] {J:List aH} (h:ck φ ι w J) {o b:Nat} {aq:bm} (ab:(aG J o).owns=true) (L:dN (ι o)=some b) (g:jk w aq b) (kv: ∀k,¬φ b k):
  ck φ ι aq (cc J o .gone)/\Step φ ι w J φ ι aq (cc J o .gone)/\eo ι J ι (cc J o .gone):=by
 have ft:(aG J o).live=true:=by cases dC:aG J o<;>rw[dC]at ab<;>first |rfl |(cases ab)
 have bw:=gP ft;have bR: ∀i,aG (cc J o .gone) i=if i=o then .gone else aG J i:=λi=>gO J o _ i (Nat.le_of_lt bw)
 have ad: ∀i,(aG J i).live=true->(aG (cc J o .gone) i).live=true:=λi h=>by rw[bR];split<;>first |rfl |exact h
 have Dh: ∀c k,φ c k->aq.cell? ⟨c,k,none⟩=w.cell? ⟨c,k,none⟩:=λc k au=>g.cell (λe=>kv k (e▸au))
 refine ⟨h.update (λi=>i=o) (λi eM=>by rw[bR,if_neg eM]) (λ_ _=>rfl) ad ?_ ?_ (λi c eM jt au=>g.blocks c ?_) Dh ?_,?_,⟨λ_ _=>rfl,ad⟩⟩
 ·rintro i rfl;rw[bR,if_pos rfl];trivial
 ·rintro i rfl j al;rw[bR,if_pos rfl]at al;simp[aH.ids]at al
 ·rintro rfl;exact eM (h.apart i o c jt ab au L)
 ·rintro i j c rfl q;rw[bR,if_pos rfl]at q;cases q
 ·refine ⟨λ_ _ h=>h,Dh,λ_ _ h=>.inl h,by rw[g.size];exact ca _,g.os,g.tape,g.output,λc au aN=>g.blocks c (λe=>aN ⟨o,ab,e▸L⟩),λc au=> ?_⟩;obtain ⟨i,q,G⟩:=au;rw[bR]at q;split at q
  ·cases q
  ·exact .inr ⟨i,q,G⟩
set_option maxHeartbeats 1000000 in
theorem aj6 [Env] {F:bn} (tab:cT P F.cx) (c8:cd P F.Γ) {Y:Nat} {g:Operand} {ps:Array Tmp} {x y:Code} {us Qp:List Nat} {e:ei} {bx:Exit->Act->bm->Prop} (ym:Env.code Y=some ⟨ps.toList,x,y,nt.n⟩)
  (RB: ∀f∈F.its,∃fn,P.funcs[f]? =some fn/\(fn.name== "runtime.NumGoroutine")=false/\fn.body.isNone=false) (h:(LC F Y g us Qp st).val=some (e,bb)) (cu:nt.rf) (cr:dv φ ι w nt st a) (lm:gW F.m st.heap)
  (c9: ∀bt aq ax aJ,dv ax aJ aq nt bb bt->Step φ ι w st.heap ax aJ aq bb.heap->ih F.m ι st.heap aJ bb.heap->bx (k3 e) bt aq):(Code.rangeFunc g ps x y).wpIn (e9 nt.ro) 0 P bx a w:=by
 unfold LC at h;split at h
 ·rename_i f lG bB;cases au:has F.its f&& !jA f&&(st.regs.get dK).isNone
  ·simp[au,DT.val]at h
  rw[au,aj]at h;simp only[bQ,eS]at au;obtain ⟨⟨m0,lP⟩,Cy⟩:=au;obtain ⟨aeA,Ru,IH,CI⟩:=RB f (Bl.1 m0);obtain ⟨⟨p,G,dq,fp⟩,W,aC⟩:=DT.val_bind_some h;obtain ⟨IX,gG⟩:=aa9 _ aC;subst gG;have bd:=HM.go_run _ _ _ _ _ _ _ _ W;unfold VE at bd;obtain ⟨jG,H1,cG,M,V⟩:=HM.go_bind_some bd;have dg:=cr.eval g;rw[bB]at dg;obtain ⟨⟨xs,a1,avv,vG,Dd⟩,afj⟩:=dg;have vG:xs= #[]:=by cases xs;simpa [K.relT] using vG
  subst vG;obtain ⟨rfl,dF,g1,aeT⟩:=ZZ (t:=λI=>a.tmps.getD I undef) _ _ φ st.heap _ _ _ M cr.heap (λs aP=>by have:=cr.regs _ _ (EZ _ s aP).1;rwa [iP (EZ _ s aP).2]at this);simp only[HM.go]at V;obtain ⟨rec,qa⟩: ∃rec:FuncId->LoopState->Option Code->Loop,rec=λfn st axE=>{state:=st,pending:=axE,fn,tmps:=a.tmps,params:=ps,assign:=x,body:=y,defers:=w.heap.size}:=⟨_,rfl⟩
  refine wpIn_rangeFunc ?_;intro It afc;have awk:(e9 nt.ro).round=none:=cu.1;rw[awk];obtain ⟨du,hc⟩: ∃du,(w.alloc (.deferred (some []))).alloc (.loop (rec It .ready none))=du:=⟨_,rfl⟩;have lV:du.heap.size=w.heap.size+2:=by rw[<-hc];simp
  have auM:du.heap[w.heap.size+1]? =some (.loop (rec It .ready none)):=by rw[<-hc];have:=World.alloc_heap_new (w.alloc (.deferred (some []))) (.loop (rec It .ready none));rwa [World.size_alloc]at this
  have auJ:du.heap[w.heap.size]? =some (.deferred (some [])):=by rw[<-hc];exact (Below.heap_alloc _ _ _ aU).trans (World.alloc_heap_new w _)
  have Rx:ig w du:=by rw[<-hc];exact ⟨rfl,rfl,rfl,by simp;omega,λb L=>(Below.heap_alloc _ _ _ (by simp;omega)).trans (Below.heap_alloc w _ b L)⟩
  have h5:(aG H1 st.heap.length).live=false:=by rw[pv (by rw[g1.len];exact ca _)];rfl
  have RE:st.heap.length<=H1.length:=by rw[g1.len];exact ca _
  have yp: ∀i,(aG H1 i).live=true->ej ι st.heap.length (.func (.yield (w.heap.size+1)) #[] #[]) i=ι i:=λi E=>by
   have:i≠st.heap.length:=by rintro rfl;rw[h5]at E;cases E
   simp[ej,this]
  obtain ⟨ai8,Ud,Ue,azC⟩:=BJ (v:=.func (.yield (w.heap.size+1)) #[] #[]) (dh:=.loop Y jG 0) g1.rel RE h5 Rx
   ⟨w.heap.size+1,rec It .ready none,_,by simp[ej],⟨ym,auM,by rw[qa],by rw[qa],by rw[qa],by rw[qa];exact cr.nt,.inl ⟨rfl,by rw[qa],by rw[qa]⟩,λs aP=>by have:=aeT s aP;rw[qa];exact K.rel_mono (λ_ _ h=>h) (λb k L=>Rx.cell (qr g1.rel L)) s.2 _ (λi E=>yp i (this.2 i E)) this.1,λk ag=>by have:=qr g1.rel ag;omega⟩⟩
   (λi E=>by obtain ⟨s,q,G⟩:=bS.ids_mem E;exact (aeT s q).2 i G) rfl (λb L=>by
    have:w.heap.size+1=b:=by simpa [dN] using L
    omega)
  obtain ⟨ae,fg,n3,aY,bp⟩:=HM.go_bind_some V;have afu:(aG (cc H1 st.heap.length (.loop Y jG 0)) st.heap.length).live=true:=by rw[gO H1 _ _ _ RE,if_pos rfl];rfl
  have eg:jj (cc H1 st.heap.length (.loop Y jG 0)) (st.heap.length+1) n3:=by
   have:(cc H1 st.heap.length (.loop Y jG 0)).length=st.heap.length+1:=by
    have q:=tI H1 (.loop Y jG 0)
    rwa [g1.len]at q
   rw[<-this];exact Pl _ _
  have CA:=(j0.call lP).1 (Kz (aQ:= #[.func (.yield (w.heap.size+1)) #[] #[]]++a1) c8 aY ai8 (by
    rw[Array.toList_append];refine ⟨_,_,rfl,⟨by simp[ej],_,rfl⟩,?_⟩;refine K.relT_mono (φ:=dF) (ι:=ι) (w:=w) (λ_ _ h=>h) (λb k L=>Rx.cell (qr g1.rel L)) lG _ (λi E=>yp i (by rw[g1.live];exact afj i (by simp[K.ids,E]))) ?_;exact K.relT_mono g1.step.phi g1.step.cells lG _ (λ_ _=>rfl) Dd) (λi E=>by
    simp only[K.idsL,K.ids,dn,gl]at E;rcases E with rfl |E
    ·exact afu
    ·exact Ue.live i (by rw[g1.live];exact afj i (by simp[K.ids,E]))) eg)
  have ae4:(callFunc f (#[.func (.yield (w.heap.size+1)) #[] #[]]++a1)).run P du=.ok (.enter f (#[.func (.yield (w.heap.size+1)) #[] #[]]++a1)) du:=by
   unfold callFunc;have CJ: ¬aeA.name= "runtime.NumGoroutine":=by simpa using IH
   have Rv: ¬aeA.body=none:=by intro bW;rw[bW]at CI;cases CI
   simp[Ru,CJ,Rv]
  have au4:=CA.resolve_right (λ⟨v,aq,q,_⟩=>by rw[ae4]at q;injection q with q _;cases q);refine ⟨w.heap.size+1,[xN w.heap.size],du,{target:=.fn (.func f) a1,args:= #[.func (.yield (w.heap.size+1)) #[] #[]]},du,f,#[.func (.yield (w.heap.size+1)) #[] #[]]++a1,du,?_,?_,λ_ _=>trivial,?_,(λh=>by cases h),?_⟩
  ·rw[<-hc,qa];exact run_enterLoop_outer _ _ _ _ _
  ·simp only[resolve,avv];simp[go_sem]
  ·simp only[invoke];exact ae4
  refine OE nt.ro ?_;refine Calls.mono au4.2 λaes aq=> ?_
  rintro ⟨v,ax,aJ,rfl,bj,ba,c3,gd,c5,nA⟩;simp only[HM.go]at bp;split at bp
  ·rename_i oj wY fT dC;simp only[HM.go]at bp;obtain ⟨rfl,rfl,rfl⟩:=go_ret bp;have afy:=bj.obj st.heap.length;rw[dC]at afy;obtain ⟨ds,pC,aej,fI,iA⟩:=afy;have e3:aJ st.heap.length=.func (.yield (w.heap.size+1)) #[] #[]:=by rw[c3.iota _ afu];simp[ej]
   have im:ds=w.heap.size+1:=AZ (fI.symm.trans e3);subst im;have gG:pC.state≠ .busy/\(match e with | .nrm=>pC.pending=none |e=>pC.pending=some (Qo e)):=by
    rcases iA.st with ⟨bq,bU,dD⟩|⟨bq,bU⟩|⟨ee,bq,bU,dD,dx⟩
    ·have:e=.nrm:=Hf (IX.symm.trans bq);subst this;exact ⟨by rw[bU];simp,dD⟩
    ·have:=atj e;omega
    ·have:e=ee:=Hf (IX.symm.trans bq);subst this;refine ⟨by rw[dD];simp,?_⟩;cases e with
     |nrm=>exact absurd rfl bU
     |ret=>exact dx
     |exit i=>exact dx
   have CF:=run_endLoop (P:=P) iA.heap gG.1;obtain ⟨kk,R9⟩: ∃kk,aq.putObj (w.heap.size+1) (.loop {pC with state:=.exhausted})=kk:=⟨_,rfl⟩;rw[R9]at CF;have afR:jk aq kk (w.heap.size+1):=by rw[<-R9];exact jk.putObj _ _ _
   have jV:dN (aJ st.heap.length)=some (w.heap.size+1):=by rw[e3];rfl
   obtain ⟨ai3,Ua,ai4⟩:=alS bj (o:=st.heap.length) (by rw[dC];rfl) jV afR iA.phi;have ai9:Step φ ι w st.heap dF ι w H1:=g1.step;have Am:=((ai9.trans Ud).trans ba).trans Ua;have KZ:=((g1.keep.trans Ue).trans c3).trans ai4;have afv: ¬j1 (ej ι st.heap.length (.func (.yield (w.heap.size+1)) #[] #[])) (cc H1 st.heap.length (.loop Y jG 0)) w.heap.size:=by
    intro h;rcases Ud.own _ h with q |q
    ·obtain ⟨o,bq,bU⟩:=h;rw[gO H1 _ _ _ RE]at bq;split at bq
     ·rename_i ab;subst ab;have dD:some (w.heap.size+1)=some w.heap.size:=by rw[<-bU];simp[ej,dN]
      have:=eY dD;omega
     ·rename_i ab;have gF:(aG H1 o).live=true:=by cases dC:aG H1 o<;>rw[dC]at bq<;>first |rfl |(cases bq)
      rw[yp o gF]at bU;have:=uG g1.rel bq bU;omega
    ·obtain ⟨o,bq,bU⟩:=q;have:=uG g1.rel bq bU;omega
   have auK:aq.heap[w.heap.size]? =some (.deferred (some [])):=(ba.blocks _ u afv).trans auJ;have auL:kk.heap[w.heap.size]? =some (.deferred (some [])):=(afR.blocks _ u).trans auK;have av0: ¬j1 aJ (cc fg st.heap.length .gone) w.heap.size:=by
    intro h;have bf:=ba.size;rcases (ba.trans Ua).own _ h with q |q
    ·omega
    ·exact afv q
   have b0:=cr.defers.1;obtain ⟨ms,dI,cW,eX⟩:=cr.defers.2 cu.2;have hmarks:Marks nt kk (j1 aJ (cc fg st.heap.length .gone)) ([xN w.heap.size]++a.defers):=by
    have b1:=(cr.defers.step Am).1;refine ⟨b1,λ_=>⟨w.heap.size::ms,by simp[dI],?_,λr ar=> ?_⟩⟩
    ·rw[List.nodup_cons];refine ⟨λhm=> ?_,cW⟩;have:=(kY.1 (eX _ hm).2.1).1;omega
    ·rcases fe.1 ar with rfl |ar
     ·exact ⟨b0,auL,av0⟩
     ·obtain ⟨bf,a6,cq⟩:=eX r ar;have bw:=(kY.1 a6).1;exact ⟨bf,(Am.blocks r bw cq).trans a6,λh=>(Am.own r h).elim (λaC=>u) cq⟩
   have aja:dv ax aJ kk nt ⟨st.regs,cc fg st.heap.length .gone⟩ {a with defers:=[xN w.heap.size]++a.defers}:=
    ⟨ai3,λI r ao=>by
     have ct:I≠dK:=λe=>by rw[e]at ao;rw[ao]at Cy;cases Cy
     have bW:=cr.regs I r ao;rw[iP ct]at bW ⊢;exact ⟨K.rel_step Am KZ bW.2 bW.1,λi E=>KZ.live i (bW.2 i E)⟩,cr.nt,cr.small,hmarks⟩
   have fin:=c9 _ kk ax aJ aja Am (KZ.keepM _);refine ⟨pC.pending,kk,CF,?_⟩;have yA:=gG.2;cases e with
   |nrm=>simp only at yA;rw[yA];exact fin
   |ret=>simp only at yA;rw[yA];exact wpIn_ret fin
   |exit i=>simp only at yA;rw[yA];exact wpIn_exit fin
  ·simp[HM.go]at bp
 ·simp[DT.val]at h
theorem Ow {R:bS}: ∀(us:List Nat) (l:List K),xI R us=some l-> ∀i∈K.idsL l,∃I r,R.get I=some r/\i∈r.ids
 |[],l,h,i,E=>by simp only[xI,bM]at h;subst h;simp[K.idsL]at E
 |I::us,l,h,i,E=>by
  simp only[xI]at h;split at h
  ·rename_i r ar;obtain ⟨m,hm,rfl⟩:=ib.1 h;simp only[K.idsL,dn]at E;rcases E with E |E
   ·exact ⟨I,r,ar,E⟩
   ·exact Ow us m hm i E
  ·cases h
theorem asm [Env] {F:bn} {id:Nat} (e:(Ly F id st).val=some bb) (cr:dv φ ι w nt st a):dv φ ι w nt bb a/\bb.heap=st.heap:=by
 unfold Ly at e;split at e
 ·simp only[DT.val,bM]at e;subst e;exact ⟨cr,rfl⟩
 ·split at e
  ·rename_i f us aQ t fj _ _ _ A B bB e6 de;simp only[DT.val,bM]at e;subst e;refine ⟨⟨cr.heap,λI r ao=> ?_,cr.nt,cr.small,cr.defers⟩,rfl⟩;have ao:(st.regs.put dK (.dfr f A B t [])).get I=some r:=ao;rw[bS.get_put]at ao;by_cases mn:I=dK
   ·subst mn;simp only[if_true,bM]at ao;subst ao;obtain ⟨⟨xs,a8,an⟩,-⟩:=cr.regs dK _ bB;simp only[K.relT]at an;rw[qM]at a8 ⊢;have C9:xs= #[]:=by cases xs;simpa using an
    subst C9;refine ⟨⟨[],a8,rfl,λi x ae an=>by simp at an⟩,λi E=> ?_⟩;simp only[K.ids,dn]at E;rcases E with E |E
    ·obtain ⟨I,r,bf,a6⟩:=Ow _ _ e6 i E;exact (cr.regs I r bf).2 i a6
    ·obtain ⟨I,r,bf,a6⟩:=Ow _ _ de i E;exact (cr.regs I r bf).2 i a6
   ·simp only[mn,if_false]at ao;exact cr.regs I r ao
  ·simp[DT.val]at e
def jU [Env] (P:cA) (F:bn) (n:Nat):Code->Prop
 | .seq a b=>jU P F n a/\jU P F n b
 | .cond _ a b=>jU P F n a/\jU P F n b
 | .block _ c=>jU P F n c
 | .scope c=>jU P F n c
 | .rangeFunc g ps a b=>(∀Y,F.rfs (JM a b)=some Y->Env.code Y=some ⟨ps.toList,a,b,n⟩)/\ ∀f∈F.its,∃fn,P.funcs[f]? =some fn/\(fn.name== "runtime.NumGoroutine")=false/\fn.body.isNone=false
 |_=>True
theorem eU [Env] {P:cA} {F:bn} {n:Nat}: ∀(c:Code),e2 c=false->jU P F n c
 | .seq a b,h=>by simp only[e2,Bool.or_eq_false_iff]at h;exact ⟨eU a h.1,eU b h.2⟩
 | .cond _ a b,h=>by simp only[e2,Bool.or_eq_false_iff]at h;exact ⟨eU a h.1,eU b h.2⟩
 | .block _ c,h=>eU c (by simpa [e2] using h)
 | .scope c,h=>eU c (by simpa [e2] using h)
 | .rangeFunc ..,h=>by simp[e2]at h
 | .loop _,_=>trivial
 | .skip,_=>trivial | .region ..,_=>trivial | .exit _,_=>trivial | .label _,_=>trivial | .goto _,_=>trivial | .ret,_=>trivial | .refuse _,_=>trivial
theorem nR [Env] {F:bn} (tab:cT P F.cx) (c8:cd P F.Γ) (hm:P.follows .mixedOrders=true): ∀(c:Code) (k:Nat) (st:bX) (e:ei) (bb:bX) (φ:bP) (ι:Nat->aA) (w:bm) (a:Act) (bx:Exit->Act->bm->Prop),(gf F c k st).val=some (e,bb)->
  (∀s∈eC c k,hq P F nt.n s.1 s.2)->hB nt.n c=true->jU P F nt.n c->iK nt c->dv φ ι w nt st a->gW F.m st.heap->
  (∀bt aq ax aJ,dv ax aJ aq nt bb bt->Step φ ι w st.heap ax aJ aq bb.heap->ih F.m ι st.heap aJ bb.heap->bx (k3 e) bt aq)->c.wpIn (e9 nt.ro) 0 P bx a w:=by
 intro c
 induction c with
 |skip=>
  intro k st e bb φ ι w a bx h ad au c2 cu cr lm c9;simp only[gf,DT.val,bM,c0]at h;obtain ⟨rfl,rfl⟩:=h;exact wpIn_skip (c9 a w φ ι cr (Step.refl _ _ _ _) (ih.refl _ _ _))
 |region id ops draw=>
  intro k st e bb φ ι w a bx h ad au c2 cu cr lm c9;simp only[gf]at h;obtain ⟨cj,q,G⟩:=DT.val_bind_some h;refine arj tab c8 hm q cr au (λh=>cu.df h) λbt aq ax aJ cY sp b4=> ?_
  split at G
  ·rename_i ks ho;simp only[DT.val,bM,c0]at G;obtain ⟨rfl,rfl⟩:=G;exact c9 bt aq ax aJ ⟨cY.heap,λI r ao=>cY.regs I r (arI ao),cY.nt,cY.small,cY.defers⟩ sp (b4.keepM _)
  ·obtain ⟨dM,W,aC⟩:=DT.val_bind_some G;simp only[DT.val,bM,c0]at aC;obtain ⟨rfl,rfl⟩:=aC;obtain ⟨bq,bU⟩:=asm W cY;exact c9 bt aq ax aJ bq (by rw[bU];exact sp) (by rw[bU];exact b4.keepM _)
 |seq x y jw jx=>
  intro k st e bb φ ι w a bx h ad au c2 cu cr lm c9;simp only[gf]at h;obtain ⟨⟨M,cj⟩,q,G⟩:=DT.val_bind_some h;simp only[hB,bQ]at au;refine wpIn_seq (jw k st M cj φ ι w a _ q (λs aP=>ad s (by simp[eC,aP])) au.1 c2.1 (cu.of (λh=>by simp[e2,h]) (λh=>by simp[gD,h])) cr lm λbt aq ax aJ cY sp b4=> ?_);cases M with
  |nrm=>
   exact jx k cj e bb ax aJ aq bt bx G (λs aP=>ad s (by simp[eC,aP])) au.2 c2.2 (cu.of (λh=>by simp[e2,h]) (λh=>by simp[gD,h])) cY (b4.live lm) λa2 dc eh en kh pF m9=>c9 a2 dc eh en kh (sp.trans pF) (b4.trans m9)
  |exit i=>
   simp only[DT.val,bM,c0]at G;obtain ⟨rfl,rfl⟩:=G;exact c9 bt aq ax aJ cY sp b4
  |ret=>
   simp only[DT.val,bM,c0]at G;obtain ⟨rfl,rfl⟩:=G;exact c9 bt aq ax aJ cY sp b4
 |cond c x y jw jx=>
  intro k st e bb φ ι w a bx h ad au c2 cu cr lm c9;simp only[gf]at h;simp only[hB,bQ]at au;split at h
  ·rename_i t aX;have a8:=NR aX (cr.eval c).1;refine wpIn_cond a8 ?_;have key: ∀(gT:bX),dv φ ι w nt gT a->gT.heap=st.heap->(bif t then (gf F x k gT).val else (gf F y k gT).val)=some (e,bb)->(if t then x else y).wpIn (e9 nt.ro) 0 P bx a w:=by
    intro gT iT bg h;rw[<-bg]at lm c9;cases t
    ·simp only[av]at h;simp only[Bool.false_eq_true,if_false];exact jx k gT e bb φ ι w a bx h (λs aP=>ad s (by simp[eC,aP])) au.2 c2.2 (cu.of (λh=>by simp[e2,h]) (λh=>by simp[gD,h])) iT lm c9
    ·simp only[aj]at h;simp only[if_true];exact jw k gT e bb φ ι w a bx h (λs aP=>ad s (by simp[eC,aP])) au.1 c2.1 (cu.of (λh=>by simp[e2,h]) (λh=>by simp[gD,h])) iT lm c9
   split at h
   ·rename_i I;have bR:st.regs.get I=some (.dat .bool t):=by
     simp only[h2]at aX;cases q8:Nat.beq I dK with
     |true=>simp[q8,mB]at aX
     |false=>
     simp only[q8,av]at aX;cases ao:st.regs.get I with
     |none=>rw[ao]at aX;simp[mB]at aX
     |some r=>
      rw[ao]at aX;have:=AF (R:=st.regs) (I:=I) (b:=t) (by rw[ao];exact aX);rw[ao]at this;exact this
    have iT:dv φ ι w nt ⟨refine st.regs I t,st.heap⟩ a:=cr.regs_eq (tK bR);refine key ⟨refine st.regs I t,st.heap⟩ iT rfl ?_;cases t
    ·simp only[DT.val,av]at h ⊢;exact h
    ·simp only[DT.val,aj]at h ⊢;exact h
   ·exact key st cr rfl (by simpa only[DT.val] using h)
  ·simp[DT.val]at h
 |block id c aO=>
  intro k st e bb φ ι w a bx h ad au c2 cu cr lm c9;simp only[gf]at h;obtain ⟨⟨M,cj⟩,q,G⟩:=DT.val_bind_some h;refine wpIn_block (aO id st M cj φ ι w a _ q (λs aP=>ad s (by simpa [eC] using aP)) au c2 (cu.of (λh=>by simpa [e2] using h) (λh=>by simpa [gD] using h)) cr lm λbt aq ax aJ cY sp b4=> ?_);cases M with
  |nrm=>
   simp only[DT.val,bM,c0]at G;obtain ⟨rfl,rfl⟩:=G;exact c9 bt aq ax aJ cY sp b4
  |exit i=>
   simp only at G;cases L:Nat.beq i id
   ·simp only[L,av,DT.val,bM,c0]at G;obtain ⟨rfl,rfl⟩:=G;have ct: ¬i=id:=λh=>by subst h;simp at L
    simp only[k3,Exit.inBlock,if_neg ct];exact c9 bt aq ax aJ cY sp b4
   ·simp only[L,aj,DT.val,bM,c0]at G;obtain ⟨rfl,rfl⟩:=G;have:i=id:=by simpa using L
    simp only[k3,Exit.inBlock,if_pos this];exact c9 bt aq ax aJ cY sp b4
  |ret=>
   simp only[DT.val,bM,c0]at G;obtain ⟨rfl,rfl⟩:=G;exact c9 bt aq ax aJ cY sp b4
 |scope c aO=>
  intro k st e bb φ ι w a bx h ad au c2 cu cr lm c9;simp only[gf]at h;refine abt (aO k st e bb φ ι w a _ h (λs aP=>ad s (by simpa [eC] using aP)) au c2 (cu.of (λh=>by simpa [e2] using h) (λh=>by simpa [gD] using h)) cr lm λbt aq ax aJ cY sp b4=> ?_);have:=c9 bt aq ax aJ cY sp b4;cases e<;>exact this
 |label l=>
  intro k st e bb φ ι w a bx h ad au c2 cu cr lm c9;simp only[gf,DT.val,bM,c0]at h;obtain ⟨rfl,rfl⟩:=h;exact wpIn_label (c9 a w φ ι cr (Step.refl _ _ _ _) (ih.refl _ _ _))
 |loop c aO=>
  intro k st e bb φ ι w a bx h ad au c2 cu cr lm c9;simp only[gf]at h;exact ad (k,c) (by simp[eC]) nt st e bb φ ι w a bx rfl cu h cr lm c9
 |exit id=>
  intro k st e bb φ ι w a bx h ad au c2 cu cr lm c9;simp only[gf,DT.val,bM,c0]at h;obtain ⟨rfl,rfl⟩:=h;exact wpIn_exit (c9 a w φ ι cr (Step.refl _ _ _ _) (ih.refl _ _ _))
 |ret=>
  intro k st e bb φ ι w a bx h ad au c2 cu cr lm c9;simp only[gf,DT.val,bM,c0]at h;obtain ⟨rfl,rfl⟩:=h;exact wpIn_ret (c9 a w φ ι cr (Step.refl _ _ _ _) (ih.refl _ _ _))
 |rangeFunc g ps x y=>
  intro k st e bb φ ι w a bx h ad au c2 cu cr lm c9;simp only[gf]at h;split at h
  ·rename_i Y yj;exact aj6 tab c8 (c2.1 Y yj) c2.2 h (cu.rf rfl) cr lm c9
  ·simp[DT.val]at h
 |_=>
  intro k st e bb φ ι w a bx h;simp[gf,DT.val]at h
def bO.fin (ay:bO):ay.Out->ei×bX
 | .inl x=>(ay.x,ay.X.enc x)| .inr y=>(ay.y,ay.Y.enc y)
theorem ei.is_eq {e f:ei} (h:e.is f=true):e=f:=by cases e<;>cases f<;>simp only[ei.is,reduceCtorEq]at h<;>first |rfl |(have:=Nat.eq_of_beq_eq_true h;subst this;rfl)|cases h
theorem bO.out_sound [Env] {ay:bO} {m:Nat} {e:ei} {st:bX} {o:ay.Out} (h:(ay.out m e st).val=some o) (cr:dv φ ι w nt st a) (lm:gW m st.heap):
  e=(ay.fin o).1/\ ∃ax aJ,dv ax aJ w nt (ay.fin o).2 a/\Step φ ι w st.heap ax aJ w (ay.fin o).2.heap/\ih m ι st.heap aJ (ay.fin o).2.heap:=by
 unfold bO.out at h;cases q:e.is ay.x
 ·simp only[q,av]at h;cases G:e.is ay.y
  ·simp[G,DT.val]at h
  ·simp only[G,aj]at h;obtain ⟨y,M,V⟩:=DT.val_bind_some h;simp only[DT.val,bM]at V;subst V;obtain ⟨ax,aJ,bf,a6,cq,-,-⟩:=lM M cr lm;exact ⟨ei.is_eq G,ax,aJ,bf,a6,cq⟩
 ·simp only[q,aj]at h;obtain ⟨x,M,V⟩:=DT.val_bind_some h;simp only[DT.val,bM]at V;subst V;obtain ⟨ax,aJ,bf,a6,cq,-,-⟩:=lM M cr lm;exact ⟨ei.is_eq q,ax,aJ,bf,a6,cq⟩
theorem acj {e:ei} {next:Act->bm->Prop} {bx:Exit->Act->bm->Prop} {a:Act} {w:bm} (he:e≠ .nrm):Exit.then next bx (k3 e) a w=bx (k3 e) a w:=by cases e<;>first |rfl |exact absurd rfl he
theorem as9 [Env] {F:bn} (tab:cT P F.cx) (c8:cd P F.Γ) (hm:P.follows .mixedOrders=true) {ay:bO} {c:Code} {k:Nat} {n:Nat} {f:ay.S.ty.den->Option ay.Out} (nO:F.Λ k=ay.go f F.m) (ea: ∀s∈eC c k,hq P F n s.1 s.2) (au:hB n c=true) (c2:jU P F n c)
  (aM: ∀d o,f d=some o-> ∃n,gi (λd=>(ay.body F c k d).val) n d=some o):hq P F n k c:=by
 intro nt st e bb φ ι w a bx aN cu h cr lm c9;subst aN;rw[nO]at h;unfold bO.go at h;obtain ⟨d,M,V⟩:=DT.val_bind_some h;obtain ⟨dF,fo,bf,a6,cq,ef,gS⟩:=lM M cr lm;obtain ⟨o,ab,he⟩: ∃o,f d=some o/\(e,bb)=ay.fin o:=by
  cases j9:f d with
  |none=>simp[j9,DT.val]at V
  |some o=>
   refine ⟨o,rfl,?_⟩;cases o with
   |inl x=>simp only[j9,DT.val,bM]at V;exact V.symm
   |inr y=>simp only[j9,DT.val,bM]at V;exact V.symm
 obtain ⟨n,aN⟩:=aM d o ab;refine wpIn_loop_rounds n ?_;have key: ∀n d φ ι w a,gi (λd=>(ay.body F c k d).val) n d=some o->dv φ ι w nt (ay.S.enc d) a->gW F.m (ay.S.enc d).heap->
   (∀bt aq ax aJ,dv ax aJ aq nt (ay.fin o).2 bt->Step φ ι w (ay.S.enc d).heap ax aJ aq (ay.fin o).2.heap->ih F.m ι (ay.S.enc d).heap aJ (ay.fin o).2.heap->bx (k3 (ay.fin o).1) bt aq)->Code.roundsIn (e9 nt.ro) 0 P c bx n a w:=by
  intro n
  induction n with
  |zero=>intro d φ ι w a h;cases h
  |succ n aO=>
   intro d φ ι w a h cr lm c9;simp only[gi]at h;rw[roundsIn_succ];cases L:(ay.body F c k d).val with
   |none=>simp[L]at h
   |some r=>
    simp only[L]at h;have h4:=L;unfold bO.body at h4;obtain ⟨⟨M,cj⟩,q,G⟩:=DT.val_bind_some h4;refine nR tab c8 hm c k _ M cj φ ι w a _ q ea au c2 (cu.of (λh=>h) (λh=>h)) cr lm λbt aq ax aJ cY sp b4=> ?_
    by_cases m2:M=.nrm
    ·subst m2;obtain ⟨t,W,aC⟩:=DT.val_bind_some G;simp only[DT.val,bM]at aC;subst aC;simp only at h;obtain ⟨eh,en,dI,cW,eX,lZ,qj⟩:=lM W cY (b4.live lm);exact aO t eh en aq bt h dI (eX.live (b4.live lm)) λa2 dc mK mJ D1 Tb SF=>c9 a2 dc mK mJ D1 ((sp.trans cW).trans Tb) ((b4.trans eX).trans SF)
    ·rw[acj m2];have bd:((ay.out F.m M cj).bind λo=>DT.leaf (Sum.inr (α:=ay.S.ty.den) o)).val=some r:=by
      cases M with
      |nrm=>exact absurd rfl m2
      |exit i=>exact G
      |ret=>exact G
     obtain ⟨jh,W,aC⟩:=DT.val_bind_some bd;simp only[DT.val,bM]at aC;subst aC;simp only[bM]at h;subst h;obtain ⟨kM,eh,en,dI,cW,eX⟩:=bO.out_sound W cY (b4.live lm);rw[kM];exact c9 bt aq eh en dI (sp.trans cW) (b4.trans eX)
 have s4:e=(ay.fin o).1/\bb=(ay.fin o).2:=by rw[<-he];exact ⟨rfl,rfl⟩
 refine key n d dF fo w a aN bf (cq.live lm) λbt aq ax aJ cY sp b4=> ?_
 have:=c9 bt aq ax aJ;rw[s4.1,s4.2]at this;exact this cY (a6.trans sp) (cq.trans b4)
end
open Go.RowKit
section
variable {P:cA} {cx:cm} {φ:bP} {ι:Nat->aA} {w:bm} {J:List aH} {n:Nat} {aB:List aH} {aE:Nat}
theorem n9 {n base:Nat} {ro:Option Nat} {nm:Bool} {w:bm} {Own:Nat->Prop} (h:base<=w.heap.size):Marks ⟨n,base,[],ro,nm⟩ w Own []:=⟨h,λ_=>⟨[],rfl,List.nodup_nil,aU⟩⟩
theorem xD {f:FuncId} {fn:Func} {c:Code} {args:Array aA} {w:bm} {R:Ending->bm->Prop} (aM:P.funcs[f]? =some fn) (L:fn.body=some c)
  (h:c.wpIn (e9 none) 0 P (bodyPostM (e9 none) 0 P fn R) {tmps:=args++Array.replicate (fn.ntmps-args.size) undef,defers:=[]} w):Calls P f args w R:=
 (callsIn_wide (n:=0)).1 (callsIn_of_wp_marks aM L trivial h rfl)
structure FJ [Env] (φ:bP) (ι:Nat->aA) (w:bm) (st:bX) (a:Act):Prop where
 heap:ck φ ι w st.heap
 regs: ∀I r,I≠dK->st.regs.get I=some r->r.rel φ ι w (a.tmps.getD I undef)/\ ∀i∈r.ids,(aG st.heap i).live=true
theorem dv.rr [Env] {nt:jD} {st:bX} {a:Act} (d:dv φ ι w nt st a):FJ φ ι w st a:=⟨d.heap,λI r ct h=>by have:=d.regs I r h;rwa [iP ct]at this⟩
theorem E1 [Env] {fn:Func} {e:ei} {R:Ending->bm->Prop} {n:Nat} {ax:bP} {aJ:Nat->aA} {aq:bm} {cj:bX} {bt:Act} (he:e=.nrm\/e=.ret) (cr:dv ax aJ aq ⟨n,w.heap.size,[],none,false⟩ cj bt) (sp:Step φ ι w J ax aJ aq cj.heap)
  (oe: ∀dc,FJ ax aJ dc cj bt->Step φ ι w J ax aJ dc cj.heap-> ∃v,(results fn bt.tmps).run P dc=.ok v dc/\R (.returned v) dc):bodyPostM (e9 none) 0 P fn R (k3 e) bt aq:=by
 have key: ∀(ms:List Nat) (aq:bm),FJ ax aJ aq cj bt->Step φ ι w J ax aJ aq cj.heap->ms.Nodup->(∀r∈ms,w.heap.size<=r/\aq.heap[r]? =some (.deferred (some []))/\ ¬j1 aJ cj.heap r)->
   LeavesInM (e9 none) 0 P fn bt.tmps R (ms.map xN) .returning aq:=by
  intro ms
  induction ms with
  |nil=>intro aq cr sp _ _;exact oe aq cr sp
  |cons r ms aO=>
   intro aq cr sp aN ar;obtain ⟨bf,a6,cq⟩:=ar r aU;refine ⟨aU,.inl ⟨r,aq.putObj r (.deferred none),rfl,run_takeDeferred a6,aO _ ?_ ?_ (List.nodup_cons.1 aN).2 λd af=> ?_⟩⟩
   ·have ct: ∀b k,ax b k->b≠r:=by rintro b k L rfl;obtain ⟨v,a8⟩:=cr.heap.phi b k L;simp[World.cell?,a6]at a8
    have fZ: ∀b k,ax b k->(aq.putObj r (.deferred none)).cell? ⟨b,k,none⟩=aq.cell? ⟨b,k,none⟩:=λb k L=>(jk.putObj aq r _).cell (ct b k L)
    refine ⟨cr.heap.update (λ_=>False) (λ_ _=>rfl) (λ_ _=>rfl) (λ_ h=>h) (λ_ h=>h.elim) (λ_ h=>h.elim) (λi b _ ab L=>World.putObj_heap_other (λe=>cq ⟨i,ab,e▸L⟩)) fZ (λ_ _ _ h=>h.elim),λI x ct ao=> ?_⟩;exact ⟨K.rel_mono (λ_ _ h=>h) fZ x _ (λ_ _=>rfl) (cr.regs I x ct ao).1,(cr.regs I x ct ao).2⟩
   ·have ct: ∀b k,ax b k->b≠r:=by rintro b k L rfl;obtain ⟨v,a8⟩:=cr.heap.phi b k L;simp[World.cell?,a6]at a8
    exact ⟨sp.phi,λb k L=>((jk.putObj aq r _).cell (ct b k (sp.phi b k L))).trans (sp.cells b k L),sp.newphi,by simpa [World.putObj] using sp.size,sp.os,sp.tape,sp.output,λb L ab=>(World.putObj_heap_other u).trans (sp.blocks b L ab),sp.own⟩
   ·obtain ⟨bq,bU,dD⟩:=ar d (by simp[af]);have awq:d≠r:=by rintro rfl;exact (List.nodup_cons.1 aN).1 af
    exact ⟨bq,(World.putObj_heap_other awq).trans bU,dD⟩
 have b0:=cr.defers.1;obtain ⟨ms,dI,cW,eX⟩:=cr.defers.2 rfl;have dI:bt.defers=ms.map xN:=by simpa using dI
 have bW:LeavesInM (e9 none) 0 P fn bt.tmps R bt.defers .returning aq:=by rw[dI];exact key ms aq cr.rr sp cW eX
 rcases he with rfl |rfl
 ·exact bW
 ·exact bW
def xJ (a:Act):ResultVar->Sem aA
 | .tmp t=>pure (a.tmps.getD t undef)
 | .cell c t=>do loadVar t (<-asAddr (a.tmps.getD c undef))
theorem wu [Env] (tab:cT P cx) {R:bS} {a:Act}: ∀(l:List ResultVar) (j:Nat) (eT:bS) (J:List aH) (n:Nat) (aB:List aH) (aE:Nat),(l4 cx R j l).go J n=some (eT,aB,aE)->ck φ ι w J->(∀I r,I≠dK->R.get I=some r->r.rel φ ι w (a.tmps.getD I undef)/\ ∀i∈r.ids,(aG J i).live=true)->
  aB=J/\aE=n/\ ∃aQ:List aA,(l.mapM (xJ a)).run P w=.ok aQ w/\aQ.length=l.length/\eT.map (·.1)=List.range' j l.length/\
   ∀(i:Nat) (x:Nat×K),eT[i]? =some x-> ∃v,aQ[i]? =some v/\x.2.rel φ ι w v/\ ∀k∈x.2.ids,(aG J k).live=true
 |[],j,eT,J,n,aB,aE,e,h,ar=>by simp only[l4]at e;obtain ⟨rfl,rfl,rfl⟩:=go_ret e;exact ⟨rfl,rfl,[],aU,rfl,rfl,λi x an=>by simp at an⟩
 |v::l,j,eT,J,n,aB,aE,e,h,ar=>by
  simp only[l4]at e;obtain ⟨r,H1,cG,M,V⟩:=HM.go_bind_some e;obtain ⟨fG,fg,dq,aY,bp⟩:=HM.go_bind_some V;obtain ⟨rfl,rfl,rfl⟩:=go_ret bp;have RV: ∀t,(h2 R (.tmp t)).rel φ ι w (a.tmps.getD t undef)/\ ∀i∈(h2 R (.tmp t)).ids,(aG J i).live=true:=by
   intro t;simp only[h2];cases L:Nat.beq t dK with
   |true=>exact ⟨trivial,by simp[K.ids]⟩
   |false=>
    simp only[av];cases aX:R.get t with
    |none=>exact ⟨trivial,by simp[K.ids]⟩
    |some x=>exact ar t x (λe=>by subst e;simp at L) aX
  have s:H1=J/\cG=n/\ ∃ae,(xJ a v).run P w=.ok ae w/\r.rel φ ι w ae/\ ∀i∈r.ids,(aG J i).live=true:=by
   cases v with
   |tmp t=>
    obtain ⟨rfl,rfl,rfl⟩:=go_ret M;exact ⟨rfl,rfl,_,by simp[xJ],(RV t).1,(RV t).2⟩
   |cell c t=>
    obtain ⟨bq,bU,ae,-,dD,dx,gw⟩:=aam tab M h (RV c).1;exact ⟨bq,bU,ae,dD,dx,gw⟩
  obtain ⟨bq,bU,ae,hu,RZ,avQ⟩:=s;subst bq bU;obtain ⟨bq,bU,us,mz,hlen,IK,fQ⟩:=wu tab l (j+1) fG H1 cG _ _ aY h ar;refine ⟨bq,bU,ae::us,?_,by simp[hlen],by simp[IK,List.range'_succ],λi x an=> ?_⟩
  ·rw[List.mapM_cons];simp only[Sem.run_bind,hu,Result.andThen_ok,mz,Sem.run_pure]
  ·cases i with
   |zero=>
    obtain rfl:(j,r)=x:=by simpa using an
    exact ⟨ae,rfl,RZ,avQ⟩
   |succ i=>
    obtain ⟨v,q,G⟩:=fQ i x (by simpa using an);exact ⟨v,by simpa using q,G⟩
theorem wv {fn:Func} {a:Act} {aQ:List aA} (h:(fn.results.toList.mapM (xJ a)).run P w=.ok aQ w):(results fn a.tmps).run P w=.ok (if h:aQ.toArray.size=1 then aQ.toArray[0] else .tuple aQ.toArray) w:=by
 have hm:(fn.results.mapM (xJ a)).run P w=.ok aQ.toArray w:=by rw[Array.mapM_eq_mapM_toList];rw[<-bind_pure_comp];simp only[Sem.run_bind,h,Result.andThen_ok,Sem.run_pure]
 have he:results fn a.tmps=(do let aQ<-fn.results.mapM (xJ a);pure (if h:aQ.size=1 then aQ[0] else .tuple aQ)):=rfl;rw[he];simp only[Sem.run_bind,hm,Result.andThen_ok,Sem.run_pure]
theorem acV: ∀(R:bS) (i k:Nat) (x:Nat×K),R.map (·.1)=List.range' i R.length->R[k]? =some x->x.1=i+k/\R.get (i+k)=some x.2
 |[],i,k,x,ag,an=>by simp at an
 |(I,r)::R,i,k,x,ag,an=>by
  simp only[List.map_cons,ia,List.range'_succ,List.cons.injEq]at ag;obtain ⟨rfl,ag⟩:=ag;cases k with
  |zero=>
   obtain rfl:(I,r)=x:=by simpa using an
   refine ⟨rfl,?_⟩;simp[bS.get]
  |succ k=>
   have aO:=acV R (I+1) k x ag (by simpa using an);refine ⟨u,?_⟩;have:Nat.beq (I+(k+1)) I=false:=xC u;simp only[bS.get,this,av];rw[show I+(k+1)=I+1+k by omega];exact aO.2
theorem nd: ∀(R:bS) (i I:Nat) (r:K),R.map (·.1)=List.range' i R.length->R.get I=some r-> ∃k,I=i+k/\R[k]? =some (I,r)
 |[],i,I,r,ag,an=>by simp[bS.get]at an
 |(e,x)::R,i,I,r,ag,an=>by
  simp only[List.map_cons,ia,List.range'_succ,List.cons.injEq]at ag;obtain ⟨rfl,ag⟩:=ag;simp only[bS.get]at an;cases L:Nat.beq I e
  ·simp only[L,av]at an;obtain ⟨k,q,G⟩:=nd R (e+1) I r ag an;exact ⟨k+1,u,by simpa using G⟩
  ·simp only[L,aj,bM]at an;have:I=e:=by simpa using L
   subst this an;exact ⟨0,rfl,rfl⟩
theorem xh {R:bS} {a:Act} (ag:R.map (·.1)=List.range' 0 R.length) (af:R.length<=dK) (h: ∀I r,R.get I=some r->r.rel φ ι w (nh a I)/\ ∀i∈r.ids,(aG J i).live=true):mR φ ι w J R (λI=>a.tmps.getD I undef):=λI r ao=>by
 obtain ⟨k,q,G⟩:=nd R 0 I r ag ao;have bw:=(iJ.1 G).1;have:=h I r ao
 rwa [iP u]at this
theorem abi: ∀(l:List K) (aQ:List aA),l.length=aQ.length->(∀(i:Nat) x v,l[i]? =some x->aQ[i]? =some v->x.rel φ ι w v)->K.relT φ ι w l aQ
 |[],[],_,_=>rfl
 |[],_::_,h,_=>by simp at h
 |_::_,[],h,_=>by simp at h
 |x::l,v::aQ,h,k=>⟨v,aQ,rfl,k 0 x v rfl rfl,abi l aQ (by simpa using h) λi y ae q G=>k (i+1) y ae (by simpa using q) (by simpa using G)⟩
theorem akN {l:List K} {v:aA} (h: ∃aQ,v=.tuple aQ/\K.relT φ ι w l aQ.toList):(K.tup l).rel φ ι w v:=h
theorem adn: ∀(l:List K) (p:Nat->Prop),(∀x∈l,∀i∈x.ids,p i)-> ∀i∈K.idsL l,p i
 |[],p,_,i,E=>by simp[K.idsL]at E
 |x::l,p,h,i,E=>by
  simp only[K.idsL,dn]at E;rcases E with E |E
  ·exact h x aU i E
  ·exact adn l p (λy bu=>h y (by simp[bu])) i E
theorem uN {R:bS} {aQ:Array aA} (ag:R.map (·.1)=List.range' 0 R.length) (hlen:R.length=aQ.size) (ar:mR φ ι w J R (λI=>aQ.getD I undef)):
  (kj R).rel φ ι w (if h:aQ.size=1 then aQ[0] else .tuple aQ)/\ ∀i∈(kj R).ids,(aG J i).live=true:=by
 have fQ: ∀(i:Nat) x,R[i]? =some x->R.get i=some x.2:=λi x an=>by have:=(acV R 0 i x ag an).2;simpa using this
 unfold kj;split
 ·rename_i I r;have q:aQ.size=1:=by simpa using hlen.symm
  have G:r.rel φ ι w (aQ.getD 0 undef)/\ ∀i∈r.ids,(aG J i).live=true:=ar 0 r (fQ 0 (I,r) rfl);rw[dif_pos q];have:aQ.getD 0 undef=aQ[0]:=by simp[ji,q]
  rw[this]at G;exact G
 ·rename_i ct;have q: ¬aQ.size=1:=by
   intro h;rw[h]at hlen
   match R,hlen with
   |[(I,r)],_=>exact ct I r rfl
  rw[dif_neg q];refine ⟨akN ⟨aQ,rfl,abi _ _ (by simp[hlen]) λi x v an a8=> ?_⟩,?_⟩
  ·simp only[List.getElem?_map,ib]at an;obtain ⟨y,bu,rfl⟩:=an;have G:y.2.rel φ ι w (aQ.getD i undef):=(ar i y.2 (fQ i y bu)).1;have:aQ.getD i undef=v:=by
    have fa:aQ[i]? =some v:=by simpa using a8
    simp[ji,fa]
   rwa [this]at G
  ·simp only[K.ids];refine adn _ (λi=>(aG J i).live=true) λx an=> ?_
   obtain ⟨y,bu,rfl⟩:=List.mem_map.1 an;obtain ⟨i,E⟩:=List.mem_iff_getElem?.1 bu;exact (ar i y.2 (fQ i y E)).2
theorem oK: ∀(l:List K) (i:Nat),(fX i l).map (·.1)=List.range' i l.length/\(fX i l).length=l.length/\ ∀(k:Nat) (x:Nat×K),(fX i l)[k]? =some x->l[k]? =some x.2
 |[],i=>⟨rfl,rfl,λk x h=>by simp[fX]at h⟩
 |r::l,i=>by
  obtain ⟨q,G,W⟩:=oK l (i+1);refine ⟨by simp[fX,q,List.range'_succ],by simp[fX,G],λk x h=> ?_⟩;cases k with
  |zero=>
   obtain rfl:(i,r)=x:=by simpa [fX] using h
   rfl
  |succ k=>simpa using W k x (by simpa [fX] using h)
theorem wg: ∀(d:List (Nat×cw)) (l rest:List eP) (R:bS),qy d l=some (R,rest)->R.map (·.1)=d.map (·.1)
 |[],l,rest,R,h=>by simp only[qy,bM,c0]at h;obtain ⟨rfl,-⟩:=h;rfl
 |(I,d)::mE,l,rest,R,h=>by
  simp only[qy]at h;split at h
  ·rename_i x fG an;obtain ⟨p,aT,G⟩:=ib.1 h;simp only[c0]at G;obtain ⟨rfl,rfl⟩:=G;simp[wg mE fG p.2 p.1 aT]
  ·cases h
def nz (fn:Func) (S Z:Shape):Bool:=
 (match fn.body with |some c=>hB fn.ntmps c&& !gD c&&Nat.ble fn.ntmps dK&&Nat.ble fn.results.size dK |none=>false)&& !(fn.name== "runtime.NumGoroutine")&&Nat.ble S.regs.length fn.ntmps&&decide (Z.regs.map (·.1)=List.range' 0 fn.results.size)
theorem zD: ∀(d:List (Nat×cw)) (R:bS) (l:List eP),jg d R=some l->R.length=d.length
 |[],[],_,_=>rfl
 |[],_::_,_,h=>by simp[jg]at h
 |_::_,[],_,h=>by simp[jg]at h
 |(I,d)::mE,(e,r)::R,l,h=>by
  simp only[jg]at h;cases L:Nat.beq I e
  ·simp[L]at h
  ·simp only[L,aj]at h;split at h
   ·rename_i a aV;obtain ⟨b,L,-⟩:=ib.1 h;simp[zD mE R b L]
   ·cases h
theorem ajr [Env] {F:bn} (tab:cT P F.cx) (c8:cd P F.Γ) (hm:P.follows .mixedOrders=true) {f:FuncId} {fn:Func} {c:Code} {S Z:Shape} (aM:P.funcs[f]? =some fn) (L:fn.body=some c) (cI:nz fn S Z=true) (ea: ∀s∈eC c 0,hq P F fn.ntmps s.1 s.2) (c2:jU P F fn.ntmps c)
  {args:List K} (fk:F.m=S.objs.length) {d:S.ty.den} {z:Z.ty.den} (af:S.dec ⟨fX 0 args,J⟩=some d) (e:(me F fn S Z d).val=some z):km P f args J (kj (Z.enc z).regs) (Z.enc z).heap:=by
 have hb:=Shape.dec_enc af;simp only[nz,L,bQ,eS,dS]at cI;obtain ⟨⟨⟨⟨⟨⟨oE,jW⟩,h6⟩,ir⟩,nI⟩,nJ⟩,nK⟩:=cI;have h6:=hg h6;have ir:=hg ir;have iO:args.length=S.regs.length/\J.length=S.objs.length:=by
  unfold Shape.dec at af;simp only at af;cases aV:jg S.regs (fX 0 args) with
  |none=>simp[aV]at af
  |some x=>
   cases L:fY S.objs J with
   |none=>simp[aV,L]at af
   |some y=>
    refine ⟨by rw[<-zD _ _ _ aV,(oK args 0).2.1],?_⟩;have: ∀(d:List dX) (R:List aH) (l:List eP),fY d R=some l->R.length=d.length:=by
     intro d
     induction d with
     |nil=>intro R l h;cases R<;>simp[fY]at h ⊢
     |cons a d aO=>
      intro R l h;cases R with
      |nil=>simp[fY]at h
      |cons b R=>
       simp only[fY]at h;split at h
       ·obtain ⟨b,L,-⟩:=ib.1 h;simp[aO R b L]
       ·cases h
    exact this _ _ _ L
 unfold me at e;rw[L]at e;simp only[Option.getD_some]at e;obtain ⟨⟨M,cj⟩,q,G⟩:=DT.val_bind_some e;have W:M=.nrm\/M=.ret:=by
  cases M with
  |nrm=>exact .inl rfl
  |ret=>exact .inr rfl
  |exit i=>simp[DT.val]at G
 have aC:(((l4 F.cx cj.regs 0 fn.results.toList).run cj.heap cj.heap.length .none).bind λ(R,h,_,_)=>Z.take F.m ⟨R,h⟩).val=some z:=by rcases W with rfl |rfl<;>exact G
 obtain ⟨⟨R,bd,ke,tB⟩,bD,dU⟩:=DT.val_bind_some aC;have kK:=HM.go_run _ _ _ _ _ _ _ _ bD;have kO:(Z.enc z).regs.map (·.1)=List.range' 0 fn.results.size:=by
  obtain ⟨⟨bb,bg,y1,pp⟩,bf,a6⟩:=DT.val_bind_some dU;simp only[DT.val_ofOpt]at a6;have cq:(Z.enc z).regs.map (·.1)=Z.regs.map (·.1):=by
   unfold Shape.dec at a6;cases aV:jg Z.regs bb.regs with
   |none=>simp[aV]at a6
   |some x=>
    cases L:fY Z.objs bb.heap with
    |none=>simp[aV,L]at a6
    |some y=>
     have:=rM _ _ x [] aV;rw[Shape.dec_enc (st:=bb) (by simp only[Shape.dec,aV,L]at a6 ⊢;exact a6)];exact wg _ _ _ _ this
  rw[cq,nK]
 refine ⟨⟨fn,aM,nI,by rw[L];rfl⟩,?_⟩
 ·intro φ ι w aQ ek e4 fF fs;refine xD aM L ?_;have eN:aQ.size=args.length:=by
   have: ∀(l:List K) (aQ:List aA),K.relT φ ι w l aQ->aQ.length=l.length:=by
    intro l
    induction l with
    |nil=>intro aQ h;simp only[K.relT]at h;simp[h]
    |cons r l aO=>intro aQ h;obtain ⟨v,m,rfl,-,h⟩:=h;simp[aO m h]
   simpa using this _ _ fF
  have eb:aQ.size<=fn.ntmps:=by rw[eN,iO.1];exact hg nJ
  have lx:dv φ ι w ⟨fn.ntmps,w.heap.size,[],none,false⟩ (S.enc d) {tmps:=aQ++Array.replicate (fn.ntmps-aQ.size) undef,defers:=[]}:=by
   rw[hb];refine ⟨ek,λI r ao=> ?_,by simp;omega,h6,n9 (ca _)⟩;obtain ⟨bf,a6,cq⟩:=oK args 0;obtain ⟨k,ag,hn⟩:=nd _ 0 I r (by rw[bf,a6]) ao;have eA:I=k:=u;subst eA;have bR:=cq I (I,r) hn;simp only at bR;obtain ⟨v,a8,jv⟩:=ub fF bR;have fa:aQ[I]? =some v:=by simpa using a8
   have lQ:I<aQ.size:=(kY.1 fa).1;have:(aQ++Array.replicate (fn.ntmps-aQ.size) undef).getD I undef=v:=by rw[ji,Array.getElem?_append_left lQ,fa];rfl
   rw[iP u,this];exact ⟨jv,λi E=>fs i (ud bR i E)⟩
  have ph:(S.enc d).heap=J:=by rw[hb]
  have jM:gW F.m (S.enc d).heap:=by rw[ph,fk,<-iO.2];exact λo ab=>e4 o ab
  refine nR tab c8 hm c 0 _ M cj φ ι w _ _ q ea oE c2 (iK.fn jW) lx jM λbt aq ax aJ cY sp b4=> ?_
  rw[ph]at sp;refine E1 W cY sp λaq cY sp=> ?_
  have lr:=b4.live jM;obtain ⟨bq,bU,us,dD,dx,gw,hC⟩:=wu tab fn.results.toList 0 R cj.heap _ bd ke kK cY.heap cY.regs;have kq:R.length=us.length:=by have:=congrArg List.length gw;simpa [dx] using this
  have kh:dv ax aJ aq ⟨us.toArray.size,0,[],none,false⟩ ⟨R,bd⟩ {tmps:=us.toArray,defers:=[]}:=by
   rw[bq];refine ⟨cY.heap,λI r ao=> ?_,rfl,by rw[List.size_toArray,dx];simpa using ir,n9 (Nat.zero_le _)⟩;obtain ⟨k,ag,hn⟩:=nd R 0 I r (by rw[gw];congr 1;omega) ao;have eA:I=k:=u;subst eA;obtain ⟨v,a8,jv,gF⟩:=hC I (I,r) hn;have:us.toArray.getD I undef=v:=by simp[ji,a8]
   have lQ:I<us.length:=(iJ.1 a8).1;have RU:fn.results.toList.length=fn.results.size:=aU;rw[iP u];simp only[this];exact ⟨jv,gF⟩
  obtain ⟨eh,en,dI,cW,eX,lZ,qj⟩:=lM dU kh (by rw[bq];exact lr);have hS:(Z.enc z).regs.length=us.toArray.size:=by have:=congrArg List.length kO;simp only[List.length_map,List.length_range']at this;rw[this];simp[dx]
  obtain ⟨ah,aS⟩:=uN (aQ:=us.toArray) (R:=(Z.enc z).regs) (by rw[kO];congr 1;simpa [dx] using hS.symm) hS (xh (a:={tmps:=us.toArray,defers:=[]}) (by rw[kO];congr 1;simpa [dx] using hS.symm) (by rw[hS,List.size_toArray,dx];simpa using ir) dI.regs);have mx:=wv dD;refine ⟨_,mx,_,eh,en,rfl,dI.heap,?_,?_,ah,aS⟩
  ·rw[bq]at cW;exact sp.trans cW
  ·rw[ph]at b4;rw[bq]at eX;have kc:=b4.trans eX;refine ⟨λo ab=> ?_,λo ab=> ?_⟩
   ·have bw:o<F.m:=by rw[fk,<-iO.2];exact gP ab
    exact (kc o bw ab).1
   ·have bw:o<F.m:=by rw[fk,<-iO.2];exact gP ab
    exact (kc o bw ab).2
end
open Go.RowKit
def cE [Env] (P:cA) (cO:aZ):Prop:= ∀args J d z,cO.S.dec ⟨fX 0 args,J⟩=some d->cO.g d=some z->km P cO.f args J (kj (cO.Z.enc z).regs) (cO.Z.enc z).heap
def qT [Env] (P:cA) (cO:aZ):Prop:= ∀args J d z,cO.S.dec ⟨fX 0 args,J⟩=some d->cO.g d=some z->wM P cO.f args J (kj (cO.Z.enc z).regs) (cO.Z.enc z).heap
theorem cE.x [Env] {P:cA} {cO:aZ} (h:cE P cO) (aM:jA cO.f=false):qT P cO:=λargs J d z q G=>(h args J d z q G).x aM
theorem aan [Env] {P:cA}: ∀(l:List aZ),(∀cO∈l,qT P cO)->cd P (hQ l)
 |[],_,f,args,J,r,aB,e=>by simp[hQ,DT.val]at e
 |cO::l,ad,f,args,J,r,aB,e=>by
  have aO:=aan l λcO jc=>ad cO (by simp[jc])
  simp only[hQ]at e;cases L:Nat.beq f cO.f
  ·simp only[L,av]at e;exact aO f args J r aB e
  ·have aM:f=cO.f:=by simpa using L
   simp only[L,aj]at e;split at e
   ·rename_i d af;unfold aZ.run at e;cases bB:cO.g d with
    |none=>simp[bB,DT.val]at e
    |some z=>
     simp only[bB,DT.val,bM,c0]at e;obtain ⟨rfl,rfl⟩:=e;rw[aM];exact ad cO aU args J d z af bB
   ·exact aO f args J r aB e
theorem atH [Env] {P:cA} {F:bn} (tab:cT P F.cx) (c8:cd P F.Γ) (hm:P.follows .mixedOrders=true) {cO:aZ} {fn:Func} {c:Code} (aM:P.funcs[cO.f]? =some fn) (L:fn.body=some c) (cI:nz fn cO.S cO.Z=true) (ea: ∀s∈eC c 0,hq P F fn.ntmps s.1 s.2) (c2:jU P F fn.ntmps c)
  (fk:F.m=cO.S.objs.length) (bB: ∀d z,cO.g d=some z->(me F fn cO.S cO.Z d).val=some z):cE P cO:=
 λargs J d z af bK=>ajr tab c8 hm aM L cI ea c2 fk af (bB d z bK)
def o7:(t:az)->t.den->List aA->Bool
 | .bool,x,cs=>match cs with |[.bool b]=>b==x |_=>false
 | .int k,x,cs=>match cs with |[.int j n]=>decide (j=k)&&decide (n=x)|_=>false
 | .str,x,cs=>match cs with |[.string d]=>decide (d.data.toList=x)|_=>false
 | .opq,_,_=>false
 | .unit,_,cs=>match cs with |[]=>true |_=>false
 | .list _,x,cs=>match x,cs with |[],[.slice _ 0 _]=>true |_,_=>false
 | .pair a b,x,cs=>o7 a x.1 (cs.take a.size)&&o7 b x.2 (cs.drop a.size)
theorem Gf {φ:bP} {w:bm}: ∀(t:az) (x:t.den) (cs:List aA),o7 t x cs=true->bA φ w t x cs
 | .bool,x,cs,h=>by
  unfold o7 at h;split at h
  ·rename_i b;obtain rfl:b=x:=by simpa using h
   rfl
  ·cases h
 | .int k,x,cs,h=>by
  unfold o7 at h;split at h
  ·rename_i j n;simp only[bQ,dS]at h;obtain ⟨q,G⟩:=h;obtain rfl:n=x:=G;subst q;rfl
  ·cases h
 | .str,x,cs,h=>by
  unfold o7 at h;split at h
  ·rename_i d;obtain rfl:d.data.toList=x:=of_decide_eq_true h;show [Value.string d]=[Value.string ⟨⟨d.data.toList⟩⟩];congr 1
  ·cases h
 | .opq,_,_,h=>by cases h
 | .unit,_,cs,h=>by
  unfold o7 at h;split at h
  ·rfl
  ·cases h
 | .list t,x,cs,h=>by
  have key: ∀(x:List t.den),x=[]-> ∀A c,bA φ w (.list t) x [.slice A 0 c]:=λx an A c=>by subst an;exact ⟨A,0,c,rfl,rfl,Nat.zero_le _,.inl rfl⟩
  unfold o7 at h;split at h
  ·rename_i an bu;exact key _ rfl _ _
  ·cases h
 | .pair a b,x,cs,h=>by simp only[o7,bQ]at h;exact ⟨cs.take a.size,cs.drop a.size,(List.take_append_drop _ _).symm,Gf a _ _ h.1,Gf b _ _ h.2⟩
def K.cells0:K->Nat
 | .agg l=>go l
 | .dat t _=>t.size
 |_=>1
where
 go:List K->Nat
  |[]=>0
  |r::l=>r.cells0+go l
def adT:K->Bool
 | .agg _=>true | .dat t _=>t.isAgg |_=>false
mutual
def iQ:K->aA->Bool
 | .dat t x,v=>o7 t x v.cells.toList&&(kb v==t.isAgg)
 | .nils _ _,v=>match v with | .slice none 0 0=>true |_=>false
 | .nilI,v=>match v with | .nilIface=>true |_=>false
 | .nilF,v=>match v with | .nilFunc=>true |_=>false
 | .agg l,v=>match v with | .agg cs=>xp l cs.toList |_=>false
 |_,_=>false
def xp:List K->List aA->Bool
 |[],cs=>match cs with |[]=>true |_=>false
 |r::l,cs=>(bif adT r then iQ r (.agg (cs.take r.cells0).toArray)&&xp l (cs.drop r.cells0) else match cs with |v::cs=>iQ r v&& !kb v&&xp l cs |[]=>false)
end
mutual
theorem FV {φ:bP} {ι:Nat->aA} {w:bm}: ∀(r:K) (v:aA),iQ r v=true->r.rel φ ι w v/\r.ids=[]
 | .dat t x,v,h=>by simp only[iQ,bQ,beq_iff_eq]at h;exact ⟨h3 ⟨Gf t x _ h.1,h.2⟩,rfl⟩
 | .nils e t,v,h=>by
  unfold iQ at h;split at h
  ·exact ⟨rfl,rfl⟩
  ·cases h
 | .agg l,v,h=>by
  unfold iQ at h;split at h
  ·rename_i cs;obtain ⟨q,G⟩:=Nb l cs.toList h;exact ⟨Hh ⟨cs,rfl,q⟩,G⟩
  ·cases h
 | .undef,_,h=>by simp[iQ]at h
 | .clip ..,_,h=>by simp[iQ]at h
 | .nilv,_,h=>by simp[iQ]at h
 | .own ..,_,h=>by simp[iQ]at h
 | .view ..,_,h=>by simp[iQ]at h
 | .ptr ..,_,h=>by simp[iQ]at h
 | .fptr ..,_,h=>by simp[iQ]at h
 | .tup ..,_,h=>by simp[iQ]at h
 | .fn ..,_,h=>by simp[iQ]at h
 | .iface ..,_,h=>by simp[iQ]at h
 | .nilI,v,h=>by
  unfold iQ at h;split at h
  ·exact ⟨rfl,rfl⟩
  ·cases h
 | .nilF,v,h=>by
  unfold iQ at h;split at h
  ·exact ⟨rfl,rfl⟩
  ·cases h
 | .nilP,_,h=>by simp[iQ]at h
 | .atl _,_,h=>by simp[iQ]at h
 | .lim ..,_,h=>by simp[iQ]at h
 | .yld ..,_,h=>by simp[iQ]at h
 | .gp ..,_,h=>by simp[iQ]at h
 | .dfr ..,_,h=>by simp[iQ]at h
theorem Nb {φ:bP} {ι:Nat->aA} {w:bm}: ∀(l:List K) (cs:List aA),xp l cs=true->K.relL φ ι w l cs/\K.idsL l=[]
 |[],cs,h=>by
  unfold xp at h;split at h
  ·exact ⟨rfl,rfl⟩
  ·cases h
 |r::l,cs,h=>by
  unfold xp at h;cases aV:adT r
  ·simp only[aV,av]at h;split at h
   ·rename_i v aek;simp only[bQ,eS]at h;obtain ⟨q,G⟩:=FV (φ:=φ) (ι:=ι) (w:=w) r v h.1.1;obtain ⟨W,aC⟩:=Nb (φ:=φ) (ι:=ι) (w:=w) l aek h.2;exact ⟨⟨v,aek,by rw[rK h.1.2];rfl,q,W⟩,by simp[K.idsL,G,aC]⟩
   ·cases h
  ·simp only[aV,aj,bQ]at h;obtain ⟨q,G⟩:=FV (φ:=φ) (ι:=ι) (w:=w) r _ h.1;obtain ⟨W,aC⟩:=Nb (φ:=φ) (ι:=ι) (w:=w) l _ h.2;exact ⟨⟨_,_,(List.take_append_drop _ _).symm,q,W⟩,by simp[K.idsL,G,aC]⟩
end
def Hn (P:cA) (cx:cm) (T:bs) (i:gq):Bool:=match P.info? T with
 |some info=>Nat.beq info.size i.ty.size&&(match cx.zeroRV 20 T with
  |some r=>(match info.zero with
   |some z=>Nat.beq z.cells.size i.ty.size&&(kb z==i.ty.isAgg)&&r.fits i.ty&&iQ r z
   |none=>false)
  |none=>true)
 |none=>false
def GM (cx:cm) (ty:az) (f:Nat) (U:bs) (off:Nat):Bool:=Nat.beq off (ty.offs f)&&(match cx.ti U with
 |some j=>decide (ty.nth f=some j.ty)&&Nat.blt 0 j.ty.size
 |none=>false)
def Ba (cx:cm) (ty:az) (dz:Array Field):Nat->List bs->Bool
 |_,[]=>true
 |f,U::l=>(match dz[f]? with
  |some fd=>Nat.beq fd.type U&&GM cx ty f U fd.offset
  |none=>false)&&Ba cx ty dz (f+1) l
def Bk (cx:cm) (ty:az) (e:bs) (size:Nat):Nat->List bs->Bool
 |_,[]=>true
 |f,U::l=>Nat.beq U e&&GM cx ty f U (f*size)&&Bk cx ty e size (f+1) l
def PF (P:cA) (e:bs) (t:az) (bytes:Nat):Bool:=match P.info? e with
 |some dQ=>Nat.beq dQ.size t.size&&Nat.beq dQ.bytes bytes&&Nat.blt 0 bytes&&Nat.blt 0 t.size&&(match dQ.zero with
  |some z=>Nat.beq z.cells.toList.length t.size&&o7 t t.zero z.cells.toList
  |none=>false)
 |none=>false
def G8 (P:cA) (cx:cm) (T:bs) (i:gq):Bool:=match i.ty with
 | .bool=>match P.underlying T with |some .bool=>true |_=>false
 | .int k=>match P.underlying T with |some (.int j)=>decide (j=k)|_=>false
 | .str=>match P.underlying T with |some .string=>true |_=>false
 | .list t=>(match P.underlying T with |some (.slice e)=>Nat.beq e i.elem |_=>false)&&PF P i.elem t i.bytes&&(match cx.ti i.elem with
  |some ae=>decide (ae.ty=t)
  |none=>false)
 | .opq=>match P.underlying T with
  |some (.array _ _)=>false
  |some (.struct _)=>false
  |some _=>true
  |none=>false
 |ty=>bif i.arr then (match P.underlying T with
   |some (.array n e)=>Nat.beq i.fields.length n&&(match P.info? e with
    |some dQ=>Bk cx ty e dQ.size 0 i.fields
    |none=>false)
   |_=>false)
  else (match P.underlying T with
   |some (.struct dz)=>Nat.beq dz.size i.fields.length&&Ba cx ty dz 0 i.fields
   |_=>false)
section
variable {P:cA} {cx:cm} {T:bs} {i:gq}
theorem aal (h:Hn P cx T i=true): ∃info,P.info? T=some info/\info.size=i.ty.size/\ ∀r,cx.zeroRV 20 T=some r-> ∃z,info.zero=some z/\z.cells.size=i.ty.size/\kb z=i.ty.isAgg/\r.fits i.ty=true/\r.ids=[]/\ ∀φ ι w,r.rel φ ι w z:=by
 unfold Hn at h;split at h
 ·rename_i info CO;simp only[bQ,Nat.beq_eq]at h;refine ⟨info,CO,h.1,λr ar=> ?_⟩;have G:=h.2;rw[ar]at G;simp only at G;split at G
  ·rename_i z bK;simp only[bQ,Nat.beq_eq,beq_iff_eq]at G;exact ⟨z,bK,G.1.1.1,G.1.1.2,G.1.2,(FV (φ:=λ_ _=>False) (ι:=λ_=>undef) (w:=default) r z G.2).2,fun φ ι w=>(FV r z G.2).1⟩
  ·cases G
 ·cases h
theorem X2 {ty:az} {f:Nat} {U:bs} {off:Nat} (h:GM cx ty f U off=true):nY P cx ty f U off:=by
 unfold GM at h;simp only[bQ,Nat.beq_eq]at h;obtain ⟨q,G⟩:=h;split at G
 ·rename_i j al;simp only[bQ,dS]at G;exact ⟨q,j,al,G.1,by simpa using G.2⟩
 ·cases G
theorem X3 {ty:az} {dz:Array Field}: ∀(l:List bs) (k:Nat),Ba cx ty dz k l=true-> ∀(f:Nat) U,l[f]? =some U-> ∃fd,dz[k+f]? =some fd/\fd.type=U/\nY P cx ty (k+f) U fd.offset
 |[],k,h,f,U,jq=>by simp at jq
 |Lw::l,k,h,f,U,jq=>by
  simp only[Ba,bQ]at h;cases f with
  |zero=>
   obtain rfl:Lw=U:=by simpa using jq
   have q:=h.1;split at q
   ·rename_i fd m3;simp only[bQ,Nat.beq_eq]at q;exact ⟨fd,m3,q.1,X2 q.2⟩
   ·cases q
  |succ f=>
   have:=X3 l (k+1) h.2 f U (by simpa using jq)
   rwa [show k+1+f=k+(f+1) by omega]at this
theorem Z2 {ty:az} {e:bs} {size:Nat}: ∀(l:List bs) (k:Nat),Bk cx ty e size k l=true-> ∀(f:Nat) U,l[f]? =some U->U=e/\nY P cx ty (k+f) U ((k+f)*size)
 |[],k,h,f,U,jq=>by simp at jq
 |Lw::l,k,h,f,U,jq=>by
  simp only[Bk,bQ,Nat.beq_eq]at h;cases f with
  |zero=>
   obtain rfl:Lw=U:=by simpa using jq
   exact ⟨h.1.1,X2 h.1.2⟩
  |succ f=>
   have:=Z2 l (k+1) h.2 f U (by simpa using jq)
   rwa [show k+1+f=k+(f+1) by omega]at this
theorem ap8 {e:bs} {t:az} {bytes:Nat} (h:PF P e t bytes=true):sP P e t bytes:=by
 unfold PF at h;split at h
 ·rename_i dQ pg;simp only[bQ,Nat.beq_eq]at h;obtain ⟨⟨⟨⟨q,G⟩,W⟩,aC⟩,bd⟩:=h;split at bd
  ·rename_i z bK;simp only[bQ,Nat.beq_eq]at bd;exact ⟨dQ,z,pg,q,G,by simpa using W,bK,by simpa using aC,bd.1,fun φ w=>Gf _ _ _ bd.2⟩
  ·cases bd
 ·cases h
theorem Z1 (h:G8 P cx T i=true):la P cx T i:=by
 have agg: ∀ty:az,(bif i.arr then (match P.underlying T with
   |some (.array n e)=>Nat.beq i.fields.length n&&(match P.info? e with
    |some dQ=>Bk cx ty e dQ.size 0 i.fields
    |none=>false)
   |_=>false)
  else (match P.underlying T with
   |some (.struct dz)=>Nat.beq dz.size i.fields.length&&Ba cx ty dz 0 i.fields
   |_=>false))=true->(i.arr=false/\ ∃dz,P.underlying T=some (.struct dz)/\dz.size=i.fields.length/\ ∀(f:Nat) U,i.fields[f]? =some U-> ∃fd,dz[f]? =some fd/\fd.type=U/\nY P cx ty f U fd.offset)\/
   (i.arr=true/\ ∃n e dQ,P.underlying T=some (.array n e)/\i.fields.length=n/\P.info? e=some dQ/\ ∀(f:Nat) U,i.fields[f]? =some U->U=e/\nY P cx ty f U (f*dQ.size)):=by
  intro ty h;cases aV:i.arr
  ·simp only[aV,av]at h;split at h
   ·rename_i dz j9;simp only[bQ,Nat.beq_eq]at h;refine .inl ⟨rfl,dz,j9,h.1,λf U jq=> ?_⟩;have:=X3 (P:=P) i.fields 0 h.2 f U jq;simpa using this
   ·cases h
  ·simp only[aV,aj]at h;split at h
   ·rename_i n e ct;simp only[bQ,Nat.beq_eq]at h;obtain ⟨q,G⟩:=h;split at G
    ·rename_i dQ pg;refine .inr ⟨rfl,n,e,dQ,ct,q,pg,λf U jq=> ?_⟩;have:=Z2 (P:=P) i.fields 0 G f U jq;simpa using this
    ·cases G
   ·cases h
 unfold G8 at h;unfold la;cases aX:i.ty with
 |bool=>
  simp only[aX]at h ⊢;split at h
  ·assumption
  ·cases h
 |int k=>
  simp only[aX]at h ⊢;split at h
  ·rename_i j al;have:j=k:=of_decide_eq_true h;rw[al,this]
  ·cases h
 |str=>
  simp only[aX]at h ⊢;split at h
  ·assumption
  ·cases h
 |list t=>
  simp only[aX,bQ]at h ⊢;obtain ⟨⟨q,G⟩,W⟩:=h;refine ⟨?_,ap8 G,?_⟩
  ·split at q
   ·rename_i e he;rw[he,Nat.eq_of_beq_eq_true q]
   ·cases q
  ·split at W
   ·rename_i ae hu;exact ⟨ae,hu,of_decide_eq_true W⟩
   ·cases W
 |opq=>
  simp only[aX]at h ⊢;split at h
  ·cases h
  ·cases h
  ·rename_i I q G ao;exact ⟨I,ao,λx e dz=>⟨λh=>q x e (by rw[h]),λh=>G dz (by rw[h])⟩⟩
  ·cases h
 |unit=>
  simp only[aX]at h ⊢;exact agg .unit h
 |pair x y=>
  simp only[aX]at h ⊢;exact agg (.pair x y) h
end
def Ha (P:cA) (T:bs) (i:gq):Bool:= !i.nil||(match P.underlying T with |some (.interface _)=>true |_=>false)
def Qa (P:cA) (T:bs) (nm:String) (f:Nat):Bool:=match P.info? T with
 |some info=>match info.methods.find? (·.name==nm) with
  |some m=>m.path.isEmpty&&(match m.func with
   |some (g,wi)=>Nat.beq g f&&(match P.underlying T with
    |some (.pointer _)=>wi
    |some _=> !wi
    |none=>false)
   |none=>false)
  |none=>false
 |none=>false
def Hc (P:cA) (T:bs) (i:gq):Bool:=i.meths.all λp=>Qa P T p.1 p.2
theorem Z3 {P:cA} {T:bs} {i:gq} (h:Ha P T i=true):i.nil=true-> ∃ms,P.underlying T=some (.interface ms):=by
 intro aN;simp only[Ha,aN,cK,Bool.false_or]at h;split at h
 ·rename_i ms ta;exact ⟨ms,ta⟩
 ·cases h
theorem arK {P:cA} {T:bs} {nm:String} {f:Nat} (h:Qa P T nm f=true):SM P T nm f:=by
 intro v w;unfold Qa at h;split at h
 ·rename_i info E;split at h
  ·rename_i m hm;simp only[bQ]at h;obtain ⟨q,G⟩:=h;split at G
   ·rename_i g wi bB;simp only[bQ,Nat.beq_eq]at G;obtain ⟨rfl,W⟩:=G;have aT:m.path= #[]:=by simpa using q
    obtain ⟨k,ag⟩: ∃k,P.types.size+Made.depth=k+1:=⟨P.types.size+Made.depth-1,by have:0<Made.depth:=fc;omega⟩
    rw[ag];unfold method;simp only[typeInfo,Sem.run_bind,Sem.run_pure,Result.andThen_ok];split at W
    ·rename_i e hu;subst W;simp[typeInfo,E,hm,aT,follow,bB,receiverAt,run_underlying hu,Place.get]
    ·rename_i I ao hu;have:wi=false:=by simpa using W
     subst this;cases I<;>first |(exact absurd rfl (ao _))|(simp[typeInfo,E,hm,aT,follow,bB,receiverAt,run_underlying hu,Place.get])
    ·cases W
   ·cases G
  ·cases h
 ·cases h
theorem Z5 {P:cA} {T:bs} {i:gq} (h:Hc P T i=true): ∀nm f,vZ i.meths nm=some f->SM P T nm f:=by
 unfold Hc at h;intro nm f;generalize i.meths=l at h
 induction l with
 |nil=>intro G;simp[vZ]at G
 |cons p l aO=>
  obtain ⟨n,g⟩:=p;simp only[List.all_cons,bQ]at h;intro G;simp only[vZ]at G;cases L:n==nm
  ·rw[L]at G;exact aO h.2 G
  ·rw[L,aj]at G;obtain rfl:=eY G;have:n=nm:=by simpa using L
   subst this;exact arK h.1
def Pq (P:cA) (cx:cm):Bool:=cx.tab.all λp=>Hn P cx p.1 p.2&&G8 P cx p.1 p.2&& !p.2.cmp&&Ha P p.1 p.2&&Hc P p.1 p.2
theorem ajR {P:cA} {cx:cm} (h:Pq P cx=true):cT P cx:=by
 have ea: ∀(l:List (Nat×gq)) T i,cm.ti.go T l=some i->(T,i)∈l:=by
  intro l T i
  induction l with
  |nil=>intro h;simp[cm.ti.go]at h
  |cons p l aO=>
   obtain ⟨U,j⟩:=p;intro h;simp only[cm.ti.go]at h;cases L:Nat.beq T U
   ·simp only[L,av]at h;exact gY _ (aO h)
   ·simp only[L,aj,bM]at h;have:T=U:=by simpa using L
    subst this h;simp
 intro T i E;have hm:=ea cx.tab T i E;unfold Pq at h;rw[fD]at h;have q:=h _ hm;simp only[bQ,eS]at q;exact ⟨aal q.1.1.1.1,Z1 q.1.1.1.2,λau=>(by rw[q.1.1.2]at au;cases au),Z3 q.1.2,Z5 q.2⟩
open Go.RowKit
def Told (w:bm):bP:=λb k=> ∃v,w.cell? ⟨b,k,none⟩=some v
def az.comps:az->Nat
 | .pair _ b=>b.comps+1 |_=>0
def az.good (B:az->Nat):(t:az)->t.den->Prop
 | .bool,_=>True
 | .int k,x=>(Lit.int k x).wf=true
 | .str,x=>x.length<=reachBytes
 | .opq,_=>False
 | .unit,_=>True
 | .list t,xs=>xs.length*B t<=reachBytes/\ ∀x∈xs,t.good B x
 | .pair a b,x=>a.good B x.1/\b.good B x.2
def az.small (a7:Nat):(t:az)->t.den->Prop
 | .str,x=>x.length<=a7
 | .list t,xs=>xs.length<=a7/\ ∀x∈xs,t.small a7 x
 | .pair a b,x=>a.small a7 x.1/\b.small a7 x.2
 |_,_=>True
structure LJ (J:Type) where
 U:DataW J->Nat
 A:List (DataW J)->Nat
 str: ∀d,d.length<=U (.lit (.string d))
 slice: ∀es sp,A es<=U (.slice es sp)
 agg: ∀ps,A ps<=U (.agg ps)
 mem: ∀I l,I∈l->U I<=A l
 len: ∀l,l.length<=A l
def xH (cx:cm) (B:az->Nat):Nat->bs->Bool
 |0,_=>false
 |n+1,T=>match cx.ti T with
  |some i=>(match i.ty with
   | .bool=>true
   | .int _=>true
   | .str=>true
   | .opq=>false
   | .list t=>Nat.beq i.bytes (B t)&&xH cx B n i.elem
   |ty=>ty.chain&&Nat.beq ty.comps i.fields.length&&i.fields.all (xH cx B n))
  |none=>false
theorem az.nth_comps: ∀(t:az) (f:Nat) (ae:az),t.nth f=some ae->f<t.comps
 | .pair a b,0,ae,h=>by simp[az.comps]
 | .pair a b,f+1,ae,h=>by have:=az.nth_comps b f ae h;simp[az.comps];exact this
 | .bool,f,ae,h=>by cases f<;>simp[az.nth]at h
 | .int _,f,ae,h=>by cases f<;>simp[az.nth]at h
 | .str,f,ae,h=>by cases f<;>simp[az.nth]at h
 | .opq,f,ae,h=>by cases f<;>simp[az.nth]at h
 | .unit,f,ae,h=>by cases f<;>simp[az.nth]at h
 | .list _,f,ae,h=>by cases f<;>simp[az.nth]at h
section
variable {J:Type} {enc:bs×aA->J} {P:cA} {cx:cm} {w:bm} {base:Nat} {spare:Nat->Bool} {held:Bool} {B:az->Nat}
theorem OF {dP:Prop} {a7:Nat}: ∀(t:az) (cs:List aA),t.chain=true->cs.length=t.size->(∀f ae,t.nth f=some ae-> ∃y:ae.den,bA (Told w) w ae y ((cs.drop (t.offs f)).take ae.size)/\ae.good B y/\(dP->ae.small a7 y))-> ∃y:t.den,bA (Told w) w t y cs/\t.good B y/\(dP->t.small a7 y)
 | .unit,cs,_,ad,_=>⟨(),kZ (by simpa [az.size] using ad),trivial,λ_=>trivial⟩
 | .pair a b,cs,au,ad,h=>by
  obtain ⟨x,an,gx,fS⟩:=h 0 a rfl;have ra:cs.length=a.size+b.size:=ad;obtain ⟨y,bu,q3,rJ⟩:=OF b (cs.drop a.size) au (by rw[List.length_drop];omega) λf ae hu=>by
   have:=h (f+1) ae hu;simp only[az.offs]at this
   rwa [<-List.drop_drop]at this
  simp only[az.offs,List.drop_zero]at an;exact ⟨(x,y),⟨_,_,(List.take_append_drop a.size cs).symm,an,bu⟩,⟨gx,q3⟩,λm=>⟨fS m,rJ m⟩⟩
 | .bool,_,h,_,_=>by cases h
 | .int _,_,h,_,_=>by cases h
 | .str,_,h,_,_=>by cases h
 | .opq,_,h,_,_=>by cases h
 | .list _,_,h,_,_=>by cases h
theorem DI: ∀(ni:List bs) (fi:List (DataW J)) (j:Nat) (t:bs) (I:DataW J),(DataW.weightsEach P ni fi).all (· <=reachBytes)=true->ni[j]? =some t->fi[j]? =some I->(I.weights P t).all (· <=reachBytes)=true
 |[],_,j,t,I,_,aX,_=>by simp at aX
 |_::_,[],j,t,I,_,_,ao=>by simp at ao
 |ae::ni,e::fi,j,t,I,h,aX,ao=>by
  simp only[DataW.weightsEach,List.all_append,bQ]at h;cases j with
  |zero=>
   obtain rfl:ae=t:=by simpa using aX
   obtain rfl:e=I:=by simpa using ao
   exact h.1
  |succ j=>exact DI ni fi j t I h.2 (by simpa using aX) (by simpa using ao)
theorem Mo {t:bs}: ∀(fi:List (DataW J)) (j:Nat) (I:DataW J),(DataW.weightsAll P t fi).all (· <=reachBytes)=true->fi[j]? =some I->(I.weights P t).all (· <=reachBytes)=true
 |[],j,I,_,ao=>by simp at ao
 |e::fi,j,I,h,ao=>by
  simp only[DataW.weightsAll,List.all_append,bQ]at h;cases j with
  |zero=>
   obtain rfl:e=I:=by simpa using ao
   exact h.1
  |succ j=>exact Mo fi j I h.2 (by simpa using ao)
theorem atx {a:Addr} {n:Nat} {c:List aA} (h:w.cells? base a n=some c):c.length=n/\ ∀(k:Nat) (v:aA),c[k]? =some v->w.cell? (a.add k)=some v:=by
 unfold World.cells? at h;split at h
 ·have key: ∀(l:List Nat) (c:List aA),l.mapM (λi=>w.cell? (a.add i))=some c->c.length=l.length/\ ∀(k:Nat) (v:aA) (i:Nat),c[k]? =some v->l[k]? =some i->w.cell? (a.add i)=some v:=by
   intro l
   induction l with
   |nil=>intro c h;simp at h;subst h;simp
   |cons i l aO=>
    intro c h;rw[List.mapM_cons]at h;simp only[Option.bind_eq_bind,Option.bind_eq_some_iff]at h;obtain ⟨v,a8,eF,au,G⟩:=h;obtain rfl:v::eF=c:=by simpa using G
    obtain ⟨W,aC⟩:=aO eF au;refine ⟨by simp[W],λk ae j ag al=> ?_⟩;cases k with
    |zero=>
     obtain rfl:v=ae:=by simpa using ag
     obtain rfl:i=j:=by simpa using al
     exact a8
    |succ k=>exact aC k ae j (by simpa using ag) (by simpa using al)
  obtain ⟨q,G⟩:=key _ _ h;have ad:c.length=n:=by simpa using q
  refine ⟨ad,λk v ag=>G k v k ag ?_⟩;have:k<n:=by rw[<-ad];exact (iJ.1 ag).1
  simp[this]
 ·cases h
theorem Ge (tab:cT P cx) {T:bs} {i:gq} (h:cx.ti T=some i):P.cellsOf T=i.ty.size:=by obtain ⟨info,q,G,_⟩:=(tab T i h).info;simp[Program.cellsOf,q,G]
theorem GB (tab:cT P cx) (k8:LJ J) {a7:Nat}: ∀(n:Nat) (T:bs) (i:gq) (fuel:Nat) (cs:List aA) (x:DataW J×List MemPlace),xH cx B n T=true->cx.ti T=some i->DataW.trod enc P w base spare held fuel T cs=some x->(x.1.weights P T).all (· <=reachBytes)=true->
  ∃y:i.ty.den,bA (Told w) w i.ty y cs/\i.ty.good B y/\(k8.U x.1<=a7->i.ty.small a7 y)
 |0,T,i,fuel,cs,x,ar,_,_,_=>by cases ar
 |n+1,T,i,fuel,cs,x,ar,E,h,hw=>by
  have agg: ∀ty:az,ty=i.ty->(ty=.unit\/ ∃a b,ty=.pair a b)->(ty.chain&&Nat.beq ty.comps i.fields.length&&i.fields.all (xH cx B n))=true->
    ((i.arr=false/\ ∃dz,P.underlying T=some (.struct dz)/\dz.size=i.fields.length/\ ∀(f:Nat) U,i.fields[f]? =some U-> ∃fd,dz[f]? =some fd/\fd.type=U/\nY P cx ty f U fd.offset)\/
   (i.arr=true/\ ∃n e dQ,P.underlying T=some (.array n e)/\i.fields.length=n/\P.info? e=some dQ/\ ∀(f:Nat) U,i.fields[f]? =some U->U=e/\nY P cx ty f U (f*dQ.size)))-> ∃y:ty.den,bA (Told w) w ty y cs/\ty.good B y/\(k8.U x.1<=a7->ty.small a7 y):=by
   intro ty eI _ au ao;simp only[bQ,Nat.beq_eq,fD]at au;obtain ⟨⟨m0,lP⟩,Cy⟩:=au;have eb:P.cellsOf T=ty.size:=by rw[Ge tab E,eI]
   rcases ao with ⟨-,dz,hu,j9,aM⟩|⟨-,m,e,dQ,hu,hm,pg,aM⟩
   ·obtain ⟨xs,k,rfl,rfl,ad,vG,an⟩:=DataW.trod_struct hu h;refine OF ty cs m0 (ad.trans eb) λf ae CK=> ?_
    have bw:=az.nth_comps ty f ae CK;have jq:i.fields[f]? =some i.fields[f]:=hx u;obtain ⟨fd,m3,aff,yw,j,al,aN,tb⟩:=aM f _ jq;rw[CK]at aN;have R5:ae=j.ty:=by simpa using aN
    subst R5;have q:=an f fd m3;have mq:f<xs.length:=u;rw[hx mq,aff,Ge tab al,yw]at q;obtain ⟨y,bu,q3,rJ⟩:=GB tab k8 n _ j k _ _ (Cy _ (dJ _)) al q (by
     simp only[DataW.weights,hu]at hw;refine DI _ _ f i.fields[f] _ hw ?_ ?_
     ·simp[m3,aff]
     ·simp[hx mq])
    exact ⟨y,bu,q3,λm=>rJ (Nat.le_trans (Nat.le_trans (k8.mem _ _ (List.mem_map.2 ⟨_,dJ mq,rfl⟩)) (k8.agg _)) m)⟩
   ·obtain ⟨xs,k,rfl,rfl,ad,vG,an⟩:=DataW.trod_array hu h;refine OF ty cs m0 (ad.trans eb) λf ae CK=> ?_
    have bw:=az.nth_comps ty f ae CK;have jq:i.fields[f]? =some i.fields[f]:=hx u;obtain ⟨Rh,yw,j,al,aN,tb⟩:=aM f _ jq;rw[CK]at aN;have R5:ae=j.ty:=by simpa using aN
    subst R5;have q:=an f u;have mq:f<xs.length:=u;have Rr:P.cellsOf e=j.ty.size:=by rw[<-Rh];exact Ge tab al
    have avj:dQ.size=P.cellsOf e:=by simp[Program.cellsOf,pg]
    rw[hx mq]at q;rw[avj]at yw;rw[yw,Rr]at q;obtain ⟨y,bu,q3,rJ⟩:=GB tab k8 n e j k _ _ (by rw[<-Rh];exact Cy _ (dJ _)) (by rw[<-Rh];exact al) q (by simp only[DataW.weights,hu]at hw;exact Mo _ f _ hw (by simp[hx mq]))
    exact ⟨y,bu,q3,λm=>rJ (Nat.le_trans (Nat.le_trans (k8.mem _ _ (List.mem_map.2 ⟨_,dJ mq,rfl⟩)) (k8.agg _)) m)⟩
  have ao:=(tab T i E).desc;simp only[xH,E]at ar;unfold la at ao;cases aX:i.ty with
  |bool=>
   simp only[aX]at ao;obtain ⟨b,rfl,-⟩:=DataW.trod_bool ao h;exact ⟨b,rfl,trivial,λ_=>trivial⟩
  |int k=>
   simp only[aX]at ao;obtain ⟨b,rfl,-,awC⟩:=DataW.trod_int ao h;exact ⟨b,rfl,awC,λ_=>trivial⟩
  |str=>
   simp only[aX]at ao;obtain ⟨d,rfl,rfl,af⟩:=DataW.trod_string ao h;refine ⟨d.data.toList,rfl,?_,λm=>Nat.le_trans (k8.str _) m⟩;have hw:(DataW.weights P T (.lit (.string d.data.toList):DataW J)).all (· <=reachBytes)=true:=hw;simp only[DataW.weights,List.all_cons,List.all_nil,Bool.and_true,dS]at hw;exact hw
  |opq=>simp only[aX]at ar;cases ar
  |unit=>
   simp only[aX]at ao ar;exact agg .unit aX.symm (.inl rfl) ar ao
  |pair a b=>
   simp only[aX]at ao ar;exact agg (.pair a b) aX.symm (.inr ⟨a,b,rfl⟩) ar ao
  |list t=>
   simp only[aX]at ao ar;obtain ⟨hu,⟨dQ,z,M,V,aY,bp,cV,da,gr,kH⟩,ae,C7,rfl⟩:=ao;simp only[bQ,Nat.beq_eq]at ar;have Rr:P.cellsOf i.elem=ae.ty.size:=Ge tab C7;rcases DataW.trod_slice hu h with ⟨rfl,rfl⟩|⟨a,len,cap,oq,rest,k,rfl,rfl,rfl,L,ad,hm,hlen,gE,-⟩
   ·exact ⟨[],⟨none,0,0,rfl,rfl,ca _,.inl rfl⟩,⟨by simp[reachBytes],aU⟩,λ_=>⟨Nat.zero_le _,aU⟩⟩
   ·simp only[DataW.weights,hu,List.all_cons,List.all_append,bQ,dS,List.length_map]at hw;obtain ⟨hc,awB,afQ⟩:=hw;have au0:P.bytesOf i.elem=B ae.ty:=by simp[Program.bytesOf,M,aY,ar.1]
    rw[Rr]at gE;have build: ∀m,m<=len-> ∃(a1:List ae.ty.den) (c:List aA),a1.length=m/\c.length=m*ae.ty.size/\c4 (bA (Told w) w ae.ty) a1 c/\(∀j v,c[j]? =some v->w.cell? (a.add j)=some v)/\ ∀y∈a1,ae.ty.good B y/\(k8.A (oq.map (·.1))<=a7->ae.ty.small a7 y):=by
     intro m
     induction m with
     |zero=>intro _;exact ⟨[],[],rfl,aU,rfl,aU,aU⟩
     |succ m aO=>
      intro CU;obtain ⟨a1,c,q,G,W,aC,bd⟩:=aO u;have an:=gE m u;have mq:m<oq.length:=u;rw[hx mq]at an;obtain ⟨bj,m0,an⟩:=Option.bind_eq_some_iff.1 an;obtain ⟨y,bu,q3,rJ⟩:=GB tab k8 n i.elem ae k bj _ ar.2 C7 an (Mo _ m _ awB (by simp[hx mq]));obtain ⟨g1,g2⟩:=atx m0;refine ⟨a1++[y],c++bj,by simp[q],by simp[G,g1,Nat.add_mul],c4.append a1 [y] c bj W ⟨bj,[],aU,bu,rfl⟩,λj v al=> ?_,λz bK=> ?_⟩
      ·rcases Nat.lt_or_ge j c.length with h |h
       ·rw[List.getElem?_append_left h]at al;exact aC j v al
       ·rw[List.getElem?_append_right h]at al;have:=g2 _ v al;have Ig:(a.add (m*ae.ty.size)).add (j-c.length)=a.add j:=by rw[Addr.add_add];congr 1;omega
        rwa [Ig]at this
      ·rcases dn.1 bK with h |h
       ·exact bd z h
       ·simp at h;subst h;exact ⟨q3,λhm=>rJ (Nat.le_trans (k8.mem _ _ (List.mem_map.2 ⟨_,dJ mq,rfl⟩)) hm)⟩
    obtain ⟨a1,c,q,G,W,aC,bd⟩:=build len (ca _);refine ⟨a1,⟨some a,len,cap,rfl,q,ad,?_⟩,⟨?_,λy bu=>(bd y bu).1⟩,λhm=> ?_⟩
    ·rcases Nat.eq_zero_or_pos len with bW |bW
     ·exact .inl bW
     ·right;have hk:0<c.length:=by rw[G];exact Nat.mul_pos bW da
      have fZ:=aC 0 c[0] (hx hk);obtain ⟨VN,aaY,ab4⟩:=a;have vC:ab4=none:=by
       cases ab4 with
       |none=>rfl
       |some d=>
        exfalso;have af:((⟨VN,aaY,some d⟩:Addr).add 0).spot=some d:=by unfold Addr.add;split<;>simp_all
        unfold World.cell? at fZ;split at fZ
        ·rw[af]at fZ;simp at fZ
        ·cases fZ
      subst vC;refine ⟨VN,aaY,c,rfl,λj v al=> ?_,W⟩;have:=aC j v al;rw[hJ]at this;exact ⟨⟨v,this⟩,this⟩
    ·rw[q,<-au0];exact Nat.le_trans (gZ _ u) hc
    ·have e6:=Nat.le_trans (k8.slice _ _) hm;refine ⟨?_,λy bu=>(bd y bu).2 e6⟩;have:=Nat.le_trans (k8.len (oq.map (·.1))) e6;rw[List.length_map]at this;omega
end
open Go.RowKit
section
variable {J:Type} {enc:bs×aA->J} {P:cA} {cx:cm} {cU:bm} {base:Nat} {spare:Nat->Bool} {held:Bool} {B:az->Nat}
theorem arR (tab:cT P cx) {T:bs} {i:gq} (E:cx.ti T=some i) (ct:i.ty≠ .opq) {r:Reach} {b:Nat} {v:aA} (h:Value.okWide P cU r b T v):kb v=i.ty.isAgg:=by
 have ao:=(tab T i E).desc;unfold la at ao;unfold Value.okWide at h;have cell: ∀I,P.underlying T=some I->(∀dz,I≠ .struct dz)->(∀n e,I≠ .array n e)->Cell.okWide P cU r b T v->(I=.bool\/(∃k,I=.int k)\/I=.string\/ ∃e,I=.slice e)->kb v=false:=by intro I ao _ _ au oC;simp only[Cell.okWide,ao]at au;rcases oC with rfl |⟨k,rfl⟩|rfl |⟨e,rfl⟩<;>cases v<;>first |rfl |(simp_all [Cell.ok,kb])
 cases aX:i.ty with
 |bool=>
  simp only[aX]at ao;simp only[ao]at h;exact cell _ ao aU aU h (.inl rfl)
 |int k=>
  simp only[aX]at ao;simp only[ao]at h;exact cell _ ao aU aU h (.inr (.inl ⟨k,rfl⟩))
 |str=>
  simp only[aX]at ao;simp only[ao]at h;exact cell _ ao aU aU h (.inr (.inr (.inl rfl)))
 |list t=>
  simp only[aX]at ao;simp only[ao.1]at h;exact cell _ ao.1 aU aU h (.inr (.inr (.inr ⟨_,rfl⟩)))
 |opq=>exact absurd aX ct
 |unit=>
  simp only[aX]at ao;rcases ao with ⟨_,dz,ao,_⟩|⟨_,n,e,dQ,ao,_⟩<;> · simp only[ao]at h;obtain ⟨cs,rfl,-⟩:=h;rfl
 |pair x y=>
  simp only[aX]at ao;rcases ao with ⟨_,dz,ao,_⟩|⟨_,n,e,dQ,ao,_⟩<;> · simp only[ao]at h;obtain ⟨cs,rfl,-⟩:=h;rfl
theorem O3 (tab:cT P cx) (k8:LJ J) {dP a7:Nat} {T:bs} {i:gq} (ar:xH cx B a7 T=true) (E:cx.ti T=some i) (ct:i.ty≠ .opq) {r:Reach} {b:Nat} {v:aA} (cI:Value.okWide P cU r b T v) {I:DataW J} {ps:List MemPlace} (h:DataW.Trod enc P cU base spare held T v I ps)
  (hw:(I.weights P T).all (· <=reachBytes)=true): ∃y:i.ty.den,cJ (Told cU) cU i.ty y v/\i.ty.good B y/\(k8.U I<=dP->i.ty.small dP y):=by
 obtain ⟨fuel,aM⟩:=h;obtain ⟨y,bu,q3,rJ⟩:=GB tab k8 a7 T i fuel _ _ ar E aM hw;exact ⟨y,⟨bu,arR tab E ct cI⟩,q3,rJ⟩
mutual
def pU:DataW J->Nat
 | .lit (.string bytes)=>bytes.length+1
 | .lit _=>1
 | .nil=>1
 | .ptr I=>pU I+1
 | .slice oq spare=>uI oq+uI spare+1
 | .agg parts=>uI parts+1
 | .iface _ I=>pU I+1
 | .map _=>1
 | .held _=>1
def uI:List (DataW J)->Nat
 |[]=>0
 |I::r=>pU I+uI r
end
def PA (J:Type):LJ J where
 U:=pU
 A:=uI
 str d:=by simp[pU]
 slice es sp:=by simp only[pU];omega
 agg ps:=by simp only[pU];omega
 mem I l h:=by
  induction l with
  |nil=>cases h
  |cons e l aO=>
   simp only[uI];rcases fe.1 h with rfl |h
   ·omega
   ·have:=aO h;omega
 len l:=by
  induction l with
  |nil=>simp
  |cons e l aO=>
   have:1<=pU e:=by
    cases e with
    |lit l=>cases l<;>simp[pU]
    |_=>simp[pU]
   simp only[uI,ia];omega
theorem atF [Env] (CM: ∀g,kz (Told cU) cU g 0 ((Env.glob g).map mX)) {f:FuncId} {args:List K} {r:K} {aB:List aH} (g:km P f args [] r aB) (fs:K.idsL args=[]) {aQ:Array aA} (ek:K.relT (Told cU) (λ_=>undef) cU args aQ.toList):
  Calls P f aQ cU λe aq=> ∃v ax aJ,e=.returned v/\r.rel ax aJ aq v/\Below cU.heap.size cU aq:=by
 have bW:ck (Told cU) (λ_=>undef) cU []:=by
  refine ⟨λo=> ?_,λo dV b h=> ?_,λb k h=>h,λo i h=> ?_,CM⟩
  ·rw[pv (Nat.zero_le _)];trivial
  ·rw[pv (Nat.zero_le _)]at h;cases h
  ·rw[pv (Nat.zero_le _)]at h;simp[aH.ids]at h
 refine Calls.mono (g.2 (Told cU) (λ_=>undef) cU aQ bW (λi h=>by simp at h) ek (λi h=>by rw[fs]at h;simp at h)) λe aq=> ?_
 rintro ⟨v,ax,aJ,he,-,d,-,ar,-⟩;refine ⟨v,ax,aJ,he,ar,⟨d.os,d.tape,d.output,d.size,λk ag=>d.blocks k ag ?_⟩⟩;rintro ⟨o,h,-⟩;rw[pv (Nat.zero_le _)]at h;cases h
theorem ajd [Env] (CM: ∀g,kz (Told cU) cU g 0 ((Env.glob g).map mX)) {f:FuncId} {args:List K} {aB:List aH} (g:km P f args [] (.dat .bool true) aB) (fs:K.idsL args=[]) {aQ:Array aA} (ek:K.relT (Told cU) (λ_=>undef) cU args aQ.toList):
  Calls P f aQ cU λe aq=>e=.returned (.bool true)/\Below cU.heap.size cU aq:=by
 refine Calls.mono (atF CM g fs ek) λe aq=> ?_
 rintro ⟨v,ax,aJ,he,ar,L⟩;have:v=.bool true:=cJ.bool.1 ar;exact ⟨by rw[he,this],L⟩
end
open Go.RowKit
def PY [Env] (P:cA):List aZ->Prop
 |[]=>True
 |cO::l=>qT P cO/\PY P l
theorem bY [Env] {P:cA}: ∀{l:List aZ},PY P l->cd P (hQ l):=by
 intro l h;refine aan l λcO jc=> ?_
 induction l with
 |nil=>cases jc
 |cons F l aO=>
  rcases fe.1 jc with rfl |jc
  ·exact h.1
  ·exact aO h.2 jc
def oW [Env] (P:cA) (F:bn) (nt:Nat):List (Nat×Code)->Prop
 |[]=>True
 |s::l=>hq P F nt s.1 s.2/\oW P F nt l
theorem uD [Env] {P:cA} {F:bn} {nt:Nat}: ∀{l m:List (Nat×Code)},l=m->oW P F nt m-> ∀s∈l,hq P F nt s.1 s.2:=by
 rintro l m rfl h s aP
 induction l with
 |nil=>cases aP
 |cons F l aO=>
  rcases fe.1 aP with rfl |aP
  ·exact h.1
  ·exact aO h.2 aP
theorem Oi {σ ρ:Type} {b:σ->Option (σ⊕ρ)} {d:σ} {r:ρ} (h:b8 b d=some r): ∃n,gi b n d=some r:=⟨_,h⟩
theorem abW {σ ρ:Type} {b:σ->Option (σ⊕ρ)}: ∀{n:Nat} {d:σ} {r:ρ} (k:Nat),gi b n d=some r->gi b (n+k) d=some r
 |0,d,r,k,h=>by cases h
 |n+1,d,r,k,h=>by
  rw[show n+1+k=(n+k)+1 by omega];simp only[gi]at h ⊢;cases L:b d with
  |none=>rw[L]at h;cases h
  |some s=>
   rw[L]at h;cases s with
   |inl t=>exact abW k h
   |inr r=>exact h
theorem oQ {σ ρ:Type} {b:σ->Option (σ⊕ρ)} {d:σ} {r:ρ} {n:Nat} (aN:n<=jl) (h:gi b n d=some r):b8 b d=some r:=by obtain ⟨k,ag⟩:=Nat.le.dest aN;unfold b8;rw[<-ag];exact abW k h
theorem rR [Env] {P:cA} {F:bn} {nt:Nat} (tab:cT P F.cx) (c8:cd P F.Γ) (hm:P.follows .mixedOrders=true) {ay:bO} {c:Code} {k:Nat} {b:ay.S.ty.den->Option (ay.S.ty.den⊕ay.Out)} {f:ay.S.ty.den->Option ay.Out} (yo: ∀d,f d=b8 b d) (nO:F.Λ k=ay.go f F.m)
  {m:List (Nat×Code)} (jf:eC c k=m) (ea:oW P F nt m) (au:hB nt c=true) (c2:jU P F nt c) (L: ∀d,(ay.body F c k d).val=b d):hq P F nt k c:=by
 refine as9 tab c8 hm nO (uD jf ea) au c2 λd o h=> ?_
 rw[yo]at h;obtain ⟨n,aN⟩:=Oi h;exact ⟨n,by rw[show (λd=>(ay.body F c k d).val)=b from funext L];exact aN⟩
theorem rQ [Env] {P:cA} {F:bn} (tab:cT P F.cx) (c8:cd P F.Γ) (hm:P.follows .mixedOrders=true) {cO:aZ} {fn:Func} (aM:P.funcs[cO.f]? =some fn) (L:fn.body=some (b7 fn)) (cI:nz fn cO.S cO.Z=true)
  {m:List (Nat×Code)} (jf:eC (b7 fn) 0=m) (ea:oW P F fn.ntmps m) (c2:jU P F fn.ntmps (b7 fn)) (fk:F.m=cO.S.objs.length) (bB: ∀d,(me F fn cO.S cO.Z d).val=cO.g d):cE P cO:=
 atH tab c8 hm aM L cI (uD jf ea) c2 fk λd z h=>(bB d).trans h
open Go.RowKit
def u5 (P:cA) (cx:cm):Nat->bs->Bool
 |0,_=>false
 |n+1,T=>match cx.ti T with
  |none=>false
  |some i=>(match i.ty with
   | .bool=>true
   | .int _=>true
   | .str=>true
   | .list _=>false
   | .opq=>false
   |ty=> !i.arr&&ty.chain&&Nat.beq ty.comps i.fields.length&& !P.stoodInHeld T&&(match P.underlying T with
    |some (.struct dz)=>dz.toList.all (λf=> !(f.name== "_")&&u5 P cx n f.type)
    |_=>false))
section
variable {P:cA} {cx:cm} {φ:bP} {w:bm}
theorem adw (tab:cT P cx) {U:bs} {j:gq} (al:cx.ti U=some j) {xs:Array aA} {off:Nat} {x:j.ty.den} (h:bA φ w j.ty x ((xs.toList.drop off).take j.ty.size)) (tb:0<j.ty.size):
  ∃v,(part U xs off).run P w=.ok v w/\cJ φ w j.ty x v:=by
 refine ⟨o5 j.ty ((xs.toList.drop off).take j.ty.size),?_,(cJ.of h).1⟩;unfold part o5;simp only[Sem.run_bind,Ox tab al,Result.andThen_ok];by_cases aV:j.ty.isAgg=true
 ·rw[if_pos aV,if_pos aV];simp only[Sem.run_bind,EO tab al,Result.andThen_ok,Sem.run_pure];congr 2;apply Array.ext';rw[Array.toList_extract,List.extract_eq_take_drop];simp
 ·simp only[Bool.not_eq_true]at aV;have ad:=h.len;have q:((xs.toList.drop off).take j.ty.size)[0]? =some (((xs.toList.drop off).take j.ty.size).headD undef):=by
   cases au:(xs.toList.drop off).take j.ty.size with
   |nil=>rw[au]at ad;simp at ad;omega
   |cons a l=>rfl
  have G:xs[off]? =some (((xs.toList.drop off).take j.ty.size).headD undef):=by rw[<-q,List.getElem?_take,if_pos tb,List.getElem?_drop];simp
  simp only[aV,Bool.false_eq_true,if_false,G,Sem.run_pure]
theorem X1 (tab:cT P cx) {I:Nat} {xs a1:Array aA} (aO: ∀U j,cx.ti U=some j->u5 P cx I U=true-> ∀x y cN hf e,I<=e->cJ φ w j.ty x cN->cJ φ w j.ty y hf->(Op.equalIn e U cN hf).run P w=.ok (j.ty.eqb x y) w) {e:Nat} (he:I<=e):
  ∀(t:az) (dz:List Field) (base:Nat) (x y:t.den),t.chain=true->dz.length=t.comps->(∀(f:Nat) fd,dz[f]? =some fd->(!(fd.name== "_")&&u5 P cx I fd.type)=true/\fd.offset=base+t.offs f/\ ∃j,cx.ti fd.type=some j/\t.nth f=some j.ty/\0<j.ty.size)->
   bA φ w t x ((xs.toList.drop base).take t.size)->bA φ w t y ((a1.toList.drop base).take t.size)->(Op.eqFields e xs a1 dz).run P w=.ok (t.eqb x y) w
 | .unit,[],base,x,y,_,_,_,_,_=>by simp[Op.eqFields,az.eqb]
 | .unit,_::_,base,x,y,_,ad,_,_,_=>by simp[az.comps]at ad
 | .pair a b,[],base,x,y,_,ad,_,_,_=>by simp[az.comps]at ad
 | .pair a b,f::dz,base,x,y,au,ad,aM,an,bu=>by
  obtain ⟨q,G,j,al,aN,tb⟩:=aM 0 f rfl;have avC:a=j.ty:=by simpa [az.nth] using aN
  subst avC;simp only[bQ,eS,beq_eq_false_iff_ne]at q;have G:f.offset=base:=by simpa [az.offs] using G
  have sp: ∀{z:(az.pair j.ty b).den} {eO:Array aA},bA φ w (.pair j.ty b) z ((eO.toList.drop base).take (az.pair j.ty b).size)->bA φ w j.ty z.1 ((eO.toList.drop base).take j.ty.size)/\bA φ w b z.2 ((eO.toList.drop (base+j.ty.size)).take b.size):=by
   intro z eO bK;obtain ⟨bj,ba,M,bf,a6⟩:=bK;have dH:=bf.len;have ds:=a6.len;have eb:(az.pair j.ty b).size=j.ty.size+b.size:=rfl;rw[eb,List.take_add]at M;have hlen:((eO.toList.drop base).take j.ty.size).length=bj.length:=by have:=congrArg List.length M;simp only[et,eE,List.length_drop]at this ⊢;omega
   obtain ⟨V,aY⟩:=List.append_inj M hlen;rw[V,<-List.drop_drop,aY];exact ⟨bf,a6⟩
  obtain ⟨n2,oV⟩:=sp an;obtain ⟨iV,kW⟩:=sp bu;obtain ⟨mH,axC,ahU⟩:=adw tab al n2 tb;obtain ⟨aze,axD,ahV⟩:=adw tab al iV tb;have m2:=aO f.type j al q.2 x.1 y.1 mH aze e he ahU ahV;have rest:=X1 tab aO he b dz (base+j.ty.size) x.2 y.2 au (by simpa [az.comps] using ad) (λk fd ag=>by obtain ⟨g1,g2,ep,g3,g4,g5⟩:=aM (k+1) fd (by simpa using ag);refine ⟨g1,?_,ep,g3,by simpa [az.nth] using g4,g5⟩;rw[g2];simp only[az.offs];omega) oV kW
  rw[Op.eqFields,if_pos q.1,G];simp only[Sem.run_bind,axC,axD,Result.andThen_ok,m2];simp only[az.eqb];cases L:j.ty.eqb x.1 y.1
  ·simp
  ·simpa using rest
 | .bool,_,_,_,_,h,_,_,_,_=>by cases h
 | .int _,_,_,_,_,h,_,_,_,_=>by cases h
 | .str,_,_,_,_,h,_,_,_,_=>by cases h
 | .opq,_,_,_,_,h,_,_,_,_=>by cases h
 | .list _,_,_,_,_,h,_,_,_,_=>by cases h
theorem abH (tab:cT P cx): ∀(n:Nat) (T:bs) (i:gq),cx.ti T=some i->u5 P cx n T=true-> ∀x y cN hf e,n<=e->cJ φ w i.ty x cN->cJ φ w i.ty y hf->(Op.equalIn e T cN hf).run P w=.ok (i.ty.eqb x y) w
 |0,T,i,_,h=>by cases h
 |n+1,T,i,E,h=>by
  intro x y cN hf e he an bu;obtain ⟨e,rfl⟩: ∃k,e=k+1:=⟨e-1,u⟩;simp only[u5,E]at h;have ao:=(tab T i E).desc;have agg: ∀ty:az,i.ty=ty->ty.isAgg=true->(!i.arr&&ty.chain&&Nat.beq ty.comps i.fields.length&& !P.stoodInHeld T&&(match P.underlying T with
    |some (.struct dz)=>dz.toList.all (λf=> !(f.name== "_")&&u5 P cx n f.type)
    |_=>false))=true->((i.arr=false/\ ∃dz,P.underlying T=some (.struct dz)/\dz.size=i.fields.length/\ ∀(f:Nat) U,i.fields[f]? =some U-> ∃fd,dz[f]? =some fd/\fd.type=U/\nY P cx ty f U fd.offset)\/
   (i.arr=true/\ ∃n e dQ,P.underlying T=some (.array n e)/\i.fields.length=n/\P.info? e=some dQ/\ ∀(f:Nat) U,i.fields[f]? =some U->U=e/\nY P cx ty f U (f*dQ.size)))->(Op.equalIn (e+1) T cN hf).run P w=.ok (i.ty.eqb x y) w:=by
   intro ty eI jI L oC;subst eI;simp only[bQ,eS,Nat.beq_eq]at L;obtain ⟨⟨⟨⟨b1,b2⟩,b3⟩,hH⟩,hO⟩:=L;rcases oC with ⟨-,dz,hu,j9,aM⟩|⟨q,-⟩
   ·rw[hu]at hO;simp only[fD]at hO;have BL:=an.2;have BP:=bu.2;rw[jI]at BL BP;obtain ⟨aug,rfl⟩:=uW BL;obtain ⟨auh,rfl⟩:=uW BP;have afd:P.fieldsOf T=dz:=by simp[Program.fieldsOf,hu]
    rw[run_equalIn_struct (P:=P) w e T aug auh (by rw[afd];exact hu) hH,afd];have fH:=an.1.len;have tl:=bu.1.len;refine X1 tab (λU j al aP x y cN hf e he=>abH tab n U j al aP x y cN hf e he) (I:=n) u i.ty dz.toList 0 x y b2 (by simp[j9,b3]) (λf fd m3=> ?_) ?_ ?_
    ·have bw:f<dz.size:=by have:=(iJ.1 m3).1;simpa using this
     obtain ⟨aex,g1,g2,g3,j,g4,g5,g6⟩:=aM f _ (hx u);have avl:dz[f]? =some fd:=by simpa using m3
     rw[avl]at g1;obtain rfl:=eY g1;refine ⟨hO fd (List.mem_of_getElem? m3),by rw[g3,Nat.zero_add],j,by rw[g2];exact g4,g5,g6⟩
    ·have:=an.1;rw[List.drop_zero,ic (by rw[<-fH];exact ca _)];exact this
    ·have:=bu.1;rw[List.drop_zero,ic (by rw[<-tl];exact ca _)];exact this
   ·rw[b1]at q;cases q
  unfold la at ao;obtain ⟨ty,el,aey,azJ,azL,apf⟩:=i;simp only at ao h an bu agg x y ⊢;cases ty with
  |bool=>
   obtain rfl:=cJ.bool.1 an;obtain rfl:=cJ.bool.1 bu;exact W0 ao e x y w
  |int k=>
   obtain rfl:=cJ.int.1 an;obtain rfl:=cJ.int.1 bu;simp only[Op.equalIn,Sem.run_bind,run_underlying ao,Result.andThen_ok,if_true,Sem.run_pure,az.eqb];congr 1
  |str=>
   obtain rfl:=cJ.str.1 an;obtain rfl:=cJ.str.1 bu;simp only[Op.equalIn,Sem.run_bind,run_underlying ao,Result.andThen_ok,Sem.run_pure,az.eqb];congr 1;rw[beq_toListBytes,qq,qq,uH]
  |list t=>cases h
  |opq=>cases h
  |unit=>exact agg .unit rfl rfl h ao
  |pair a b=>exact agg (.pair a b) rfl rfl h ao
def PG (P:cA) (cx:cm) (T:bs):Bool:=u5 P cx 20 T&& !P.eqGuardType P.depth T
theorem ajo (tab:cT P cx) {T:bs} {i:gq} (E:cx.ti T=some i) (h:PG P cx T=true) (jI:i.ty.isAgg=true):aet P T i.ty:=by
 simp only[PG,bQ,eS]at h;obtain ⟨q,G⟩:=h;intro φ w x y cN hf n5 pH an bu;have he:=abH (w:=w) tab 20 T i E q x y cN hf Op.maxDepth fc an bu;have BL:=an.2;have BP:=bu.2;rw[jI]at BL BP;obtain ⟨cs,rfl⟩:=uW BL;obtain ⟨fi,rfl⟩:=uW BP;constructor
 ·simp[eqGuard,G,binOp,Op.equal,he]
 ·simp[eqGuard,G,binOp,Op.equal,he]
end
def cm.plain (cx:cm):cm:={cx with tab:=cx.tab.map λp=>(p.1,{p.2 with cmp:=false})}
def aco (P:cA) (cx:cm):Bool:=Pq P cx.plain&&cx.tab.all λp=>Hn P cx p.1 p.2&&G8 P cx p.1 p.2&&(!p.2.cmp||PG P cx.plain p.1)&&Ha P p.1 p.2&&Hc P p.1 p.2
theorem as0 {P:cA} {cx:cm} (h:aco P cx=true):cT P cx:=by
 have ea: ∀(l:List (Nat×gq)) T i,cm.ti.go T l=some i->(T,i)∈l:=by
  intro l T i
  induction l with
  |nil=>intro h;simp[cm.ti.go]at h
  |cons p l aO=>
   obtain ⟨U,j⟩:=p;intro h;simp only[cm.ti.go]at h;cases L:Nat.beq T U
   ·simp only[L,av]at h;exact gY _ (aO h)
   ·simp only[L,aj,bM]at h;have:T=U:=by simpa using L
    subst this h;simp
 have ju: ∀(l:List (Nat×gq)) T i,cm.ti.go T l=some i->cm.ti.go T (l.map λp=>(p.1,{p.2 with cmp:=false}))=some {i with cmp:=false}:=by
  intro l T i
  induction l with
  |nil=>intro h;simp[cm.ti.go]at h
  |cons p l aO=>
   obtain ⟨U,j⟩:=p;intro h;simp only[cm.ti.go,List.map_cons]at h ⊢;cases L:Nat.beq T U
   ·simp only[L,av]at h ⊢;exact aO h
   ·simp only[L,aj,bM]at h ⊢;subst h;rfl
 simp only[aco,bQ,fD]at h;obtain ⟨q,G⟩:=h;have tab:=ajR q;intro T i E;have hm:=ea cx.tab T i E;have W:=G _ hm;simp only[Bool.or_eq_true,eS]at W;refine ⟨aal W.1.1.1.1,Z1 W.1.1.1.2,λau _ aV=> ?_,Z3 W.1.2,Z5 W.2⟩;have aC:=W.1.1.2.resolve_left (by rw[au];simp);exact ajo (i:={i with cmp:=false}) tab (ju cx.tab T i E) aC aV
theorem akS {x:Int} (bW: -9223372036854775808<=x) (q:x<9223372036854775808):IntKind.i64.wrap x=x:=PS bW q
open Go.RowKit
def VB:List (Nat×Nat)->Nat->Nat->Bool
 |[],_,_=>false
 |(f,j)::l,mj,gh=>(Nat.beq f mj&&Nat.beq j gh)||VB l mj gh
def VC (R:bS):Shape:=⟨R.map λp=>(p.1,.undef),[]⟩
def LF [Env] (F:bn) (fn:Func) (args:List K) (J:List aH):DT (K×List aH):=
 bif Nat.ble args.length fn.ntmps then
  (gf {cx:=F.cx,Γ:=F.Γ,Λ:=λ_ _=>.fail,keep:=F.keep,m:=J.length} (fn.body.getD .skip) 0 ⟨fX 0 args,J⟩).bind λs=>match s.1 with
   | .exit _=>.fail
   |_=>((l4 F.cx s.2.regs 0 fn.results.toList).run s.2.heap s.2.heap.length .none).bind λp=>
    ((Ay (VC p.1) J.length p.1).run p.2.1 p.2.1.length .none).bind λd=>
     bif decide (d.1.regs.map (·.1)=List.range' 0 fn.results.size) then .leaf (kj d.1.regs,d.1.heap) else .fail
 else .fail
def Aw (f:FuncId) (g:List K->List aH->DT (K×List aH)) (Γ:hN):hN:=λmj args J=>bif Nat.beq mj f then g args J else Γ mj args J
section
variable {P:cA} {J:List aH}
theorem abI [Env] {f:FuncId} {g:List K->List aH->DT (K×List aH)} {Γ:hN} (h: ∀args J r aB,(g args J).val=some (r,aB)->wM P f args J r aB) (c8:cd P Γ):cd P (Aw f g Γ):=by
 intro mj args J r aB e;unfold Aw at e;cases L:Nat.beq mj f
 ·rw[L,av]at e;exact c8 mj args J r aB e
 ·rw[L,aj]at e;have:mj=f:=by simpa using L
  subst this;exact h args J r aB e
theorem Gd [Env] {f:FuncId} {g:List K->List aH->DT (K×List aH)} {Γ:hN} (aM:jA f=false) (h: ∀args J r aB,(g args J).val=some (r,aB)->km P f args J r aB) (c8:cd P Γ):cd P (Aw f g Γ):=
 abI (λargs J r aB e=>(h args J r aB e).x aM) c8
theorem Gx [Env] {F:bn} (tab:cT P F.cx) (c8:cd P F.Γ) (hm:P.follows .mixedOrders=true) {f:FuncId} {fn:Func} (aM:P.funcs[f]? =some fn) (L:fn.body=some (b7 fn)) (cI:(hB fn.ntmps (b7 fn)&& !(fn.name== "runtime.NumGoroutine")&& !e2 (b7 fn)&& !gD (b7 fn)&&Nat.ble fn.ntmps dK&&Nat.ble fn.results.size dK)=true) (ad:eC (b7 fn) 0=[])
  (args:List K) (J:List aH) (r:K) (aB:List aH) (e:(LF F fn args J).val=some (r,aB)):km P f args J r aB:=by
 simp only[bQ,eS]at cI;obtain ⟨⟨⟨⟨⟨oE,nI⟩,nJ⟩,jW⟩,h6⟩,ir⟩:=cI;have h6:=hg h6;have ir:=hg ir;unfold LF at e;cases Ro:Nat.ble args.length fn.ntmps
 ·simp[Ro,DT.val]at e
 rw[Ro,aj]at e;obtain ⟨⟨M,cj⟩,q,G⟩:=DT.val_bind_some e;have W:M=.nrm\/M=.ret:=by
  cases M with
  |nrm=>exact .inl rfl
  |ret=>exact .inr rfl
  |exit i=>simp[DT.val]at G
 have aC:(((l4 F.cx cj.regs 0 fn.results.toList).run cj.heap cj.heap.length .none).bind λp=>
    ((Ay (VC p.1) J.length p.1).run p.2.1 p.2.1.length .none).bind λd=>
     bif decide (d.1.regs.map (·.1)=List.range' 0 fn.results.size) then DT.leaf (kj d.1.regs,d.1.heap) else .fail).val=some (r,aB):=by
  rcases W with rfl |rfl<;>exact G
 obtain ⟨⟨R,bd,ke,tB⟩,bD,dU⟩:=DT.val_bind_some aC;have kK:=HM.go_run _ _ _ _ _ _ _ _ bD;obtain ⟨⟨bb,bg,y1,pp⟩,gB,pc⟩:=DT.val_bind_some dU;have auD:=HM.go_run _ _ _ _ _ _ _ _ gB;simp only at pc;cases ag:decide (bb.regs.map (·.1)=List.range' 0 fn.results.size)
 ·simp[ag,DT.val]at pc
 rw[ag,aj]at pc;simp only[DT.val,bM,c0]at pc;obtain ⟨rfl,rfl⟩:=pc;have IK:=of_decide_eq_true ag;refine ⟨⟨fn,aM,nI,by rw[L];rfl⟩,?_⟩;intro φ ι w aQ ek e4 fF fs;refine xD aM L ?_;have eN:aQ.size=args.length:=by
  have: ∀(l:List K) (aQ:List aA),K.relT φ ι w l aQ->aQ.length=l.length:=by
   intro l
   induction l with
   |nil=>intro aQ h;simp only[K.relT]at h;simp[h]
   |cons r l aO=>intro aQ h;obtain ⟨v,m,rfl,-,h⟩:=h;simp[aO m h]
  simpa using this _ _ fF
 have eb:aQ.size<=fn.ntmps:=by rw[eN];exact hg Ro
 have lx:dv φ ι w ⟨fn.ntmps,w.heap.size,[],none,false⟩ ⟨fX 0 args,J⟩ {tmps:=aQ++Array.replicate (fn.ntmps-aQ.size) undef,defers:=[]}:=by
  refine ⟨ek,λI r ao=> ?_,by simp;omega,h6,n9 (ca _)⟩;obtain ⟨bf,a6,cq⟩:=oK args 0;obtain ⟨k,ag,hn⟩:=nd _ 0 I r (by rw[bf,a6]) ao;have eA:I=k:=u;subst eA;have bR:=cq I (I,r) hn;simp only at bR;obtain ⟨v,a8,jv⟩:=ub fF bR;have fa:aQ[I]? =some v:=by simpa using a8
  have lQ:I<aQ.size:=(kY.1 fa).1;have:(aQ++Array.replicate (fn.ntmps-aQ.size) undef).getD I undef=v:=by rw[ji,Array.getElem?_append_left lQ,fa];rfl
  rw[iP u,this];exact ⟨jv,λi E=>fs i (ud bR i E)⟩
 have jM:gW J.length J:=λo ab=>e4 o ab
 have au1:fn.body.getD .skip=b7 fn:=rfl;rw[au1]at q;refine nR (F:={cx:=F.cx,Γ:=F.Γ,Λ:=λ_ _=>.fail,keep:=F.keep,m:=J.length}) tab c8 hm (b7 fn) 0 _ M cj φ ι w _ _ q (by rw[ad];simp) oE (eU _ nJ) (iK.fn jW) lx jM λbt aq ax aJ cY sp b4=> ?_
 refine E1 W cY sp λaq cY sp=> ?_
 have lr:=b4.live jM;obtain ⟨bq,bU,us,dD,dx,gw,hC⟩:=wu tab fn.results.toList 0 R cj.heap _ bd ke kK cY.heap cY.regs;have kq:R.length=us.length:=by have:=congrArg List.length gw;simpa [dx] using this
 have rr:mR ax aJ aq bd R (λI=>us.toArray.getD I undef):=by
  rw[bq];intro I r ao;obtain ⟨k,ag,hn⟩:=nd R 0 I r (by rw[gw];congr 1;omega) ao;have eA:I=k:=u;subst eA;obtain ⟨v,a8,jv,gF⟩:=hC I (I,r) hn;have:us.toArray.getD I undef=v:=by simp[ji,a8]
  simp only[this];exact ⟨jv,gF⟩
 obtain ⟨eh,en,dI,cW,eX,lZ,qj,ahq,aAo⟩:=abQ (jO:=λI=>us.toArray.getD I undef) auD rfl (by rw[bq];exact cY.heap) rr (by rw[bq];exact lr);have hS:bb.regs.length=us.toArray.size:=by have:=congrArg List.length IK;simp only[List.length_map,List.length_range']at this;rw[this];simp[dx]
 obtain ⟨ah,aS⟩:=uN (aQ:=us.toArray) (R:=bb.regs) (by rw[IK];congr 1;simpa [dx] using hS.symm) hS cW;have mx:=wv dD;refine ⟨_,mx,_,eh,en,rfl,dI,?_,?_,ah,aS⟩
 ·rw[bq]at eX;exact sp.trans eX
 ·rw[bq]at lZ;have kc:=b4.trans lZ;refine ⟨λo ab=> ?_,λo ab=> ?_⟩
  ·exact (kc o (gP ab) ab).1
  ·exact (kc o (gP ab) ab).2
end
open Go.RowKit
structure adF [Env] (F:bn) (ops:Array Oper) (st:bX) (gM:bX->Prop) (os:List Oper) (o:Oper) (T:bs) (x:Operand) (I:Tmp) (dM:bX) (t:az) (xs:List t.den):Prop where
 split:ops.toList=os++[o]
 op:o.op=.binOp .eql T x (.const (.slice none 0 0)) T
 dst:o.dst=some I
 guard:o.guard=none
 run:(oU F.cx F.Γ ops os st).val=some dM
 val:h2 dM.regs x=.dat (.list t) xs
 ty:F.cx.isTy T (.list t)=true
 yes:xs=[]->gM ⟨dM.regs.put I (.dat .bool true),dM.heap⟩
 no:gM ⟨dM.regs.put I (.dat .bool false),dM.heap⟩
def Aa [Env] (F:bn) (c:Code) (k:Nat) (st:bX) (gM:ei->bX->Prop):Prop:= ∃e bb,(gf F c k st).val=some (e,bb)/\gM e bb
def k0 [Env] (F:bn):Code->Nat->bX->(ei->bX->Prop)->Prop
 | .seq a b,k,st,gM=>Aa F (.seq a b) k st gM\/k0 F a k st λe bb=>(e=.nrm->k0 F b k bb gM)/\(e≠ .nrm->gM e bb)
 | .cond c a b,k,st,gM=>Aa F (.cond c a b) k st gM\/ ∃I t,c=.tmp I/\st.regs.get I=some (.dat .bool t)/\(t=true->k0 F a k st gM)/\(t=false->k0 F b k st gM)
 | .region id ops false,k,st,gM=>Aa F (.region id ops false) k st gM\/(∃bb,(oU F.cx F.Γ ops ops.toList st).val=some bb/\gM .nrm bb)\/ ∃os o T x I dM t xs,adF F ops st (gM .nrm) os o T x I dM t xs
 |c,k,st,gM=>Aa F c k st gM
theorem k0.det [Env] {F:bn} {c:Code} {k:Nat} {st:bX} {gM:ei->bX->Prop} (h:Aa F c k st gM):k0 F c k st gM:=by
 cases c with
 |region id ops draw=>cases draw<;>first |exact h |exact .inl h
 |_=>first |exact h |exact .inl h
section
variable {P:cA} {nt:jD} {φ:bP} {ι:Nat->aA} {w:bm} {J:List aH}
theorem an2 {T e:bs} (hu:P.underlying T=some (.slice e)) (I:Nat) (A:Option Addr) (n c:Nat) (w:bm):(Op.equalIn (I+1) T (.slice A n c) (.slice none 0 0)).run P w=.ok A.isNone w:=by cases A<;>simp[Op.equalIn,run_underlying hu]
theorem aoL {T e:bs} (hu:P.underlying T=some (.slice e)) (A:Option Addr) (n c:Nat) (w:bm):(Op.equal T (.slice A n c) (.slice none 0 0)).run P w=.ok A.isNone w:=an2 hu 9999 A n c w
theorem abj [Env] {cx:cm} {Γ:hN} (tab:cT P cx) (c8:cd P Γ) {ops:Array Oper} {bx:Exit->Act->bm->Prop} {rest:List Oper}: ∀(l:List Oper) (st bb:bX) (φ:bP) (ι:Nat->aA) (w:bm) (a:Act),(oU cx Γ ops l st).val=some bb->dv φ ι w nt st a->l.all (pS nt.n)=true->l.any u7=false->
  (∀bt aq ax aJ,dv ax aJ aq nt bb bt->Step φ ι w st.heap ax aJ aq bb.heap->eo ι st.heap aJ bb.heap->wpListIn (e9 nt.ro) 0 P ops bx rest bt aq)->wpListIn (e9 nt.ro) 0 P ops bx (l++rest) a w
 |[],st,bb,φ,ι,w,a,e,d,ao,mr,k=>by simp only[oU,DT.val,bM]at e;subst e;exact k a w φ ι d (Step.refl _ _ _ _) (eo.refl _ _)
 |o::l,st,bb,φ,ι,w,a,e,d,ao,mr,k=>by
  simp only[oU]at e;obtain ⟨cj,ch,V⟩:=DT.val_bind_some e;simp only[List.all_cons,bQ]at ao;simp only[List.any_cons,Bool.or_eq_false_iff]at mr;obtain ⟨⟨dM,m,p⟩,M,aY⟩: ∃s,(qt cx Γ ops o st st.heap.length).val=some s/\s.1=cj:=by
   split at ch
   ·rename_i c ab;simp[u7,ab]at mr
   ·obtain ⟨s,aY,bp⟩:=DT.val_bind_some ch;simp only[DT.val,bM]at bp;exact ⟨s,aY,bp⟩
  simp only at aY;subst aY;have s:=NC (bx:=bx) tab c8 M d (Pl _ _) ao.1 λbt aq ax aJ s1 t1 bf cG=>
   abj tab c8 l dM bb ax aJ aq bt V s1 ao.2 mr.2 λa2 dc eh en s2 t2 a6=>k a2 dc eh en s2 (t1.trans t2) (bf.trans a6)
  rw[List.cons_append];unfold wpListIn;split
  ·rename_i h;rw[if_pos h]at s;exact s
  ·rename_i h;rw[if_neg h]at s;exact ⟨λ_ _=>trivial,s⟩
theorem aqK [Env] {F:bn} (tab:cT P F.cx) (c8:cd P F.Γ) {ops:Array Oper} {st:bX} {gM:bX->Prop} {os:List Oper} {o:Oper} {T:bs} {x:Operand} {I:Tmp} {dM:bX} {t:az} {xs:List t.den} (a7:adF F ops st gM os o T x I dM t xs)
  {bx:Exit->Act->bm->Prop} {a:Act} {id:Nat} (ao:ops.toList.all (pS nt.n)=true) (mr:ops.toList.any u7=false) (d:dv φ ι w nt st a)
  (k: ∀bb bt aq ax aJ,gM bb->dv ax aJ aq nt bb bt->Step φ ι w st.heap ax aJ aq bb.heap->eo ι st.heap aJ bb.heap->bx .normal bt aq):(Code.region id ops false).wpIn (e9 nt.ro) 0 P bx a w:=by
 refine wpIn_region_list ?_;rw[a7.split]at ao mr ⊢;rw[List.any_append,Bool.or_eq_false_iff]at mr;simp only[List.all_append,List.all_cons,List.all_nil,Bool.and_true,bQ]at ao;refine abj tab c8 os st dM φ ι w a a7.run d ao.1 mr.1 λbt aq ax aJ s1 t1 bf=> ?_
 have an:=(s1.eval x).1;rw[a7.val]at an;have yC:cJ ax aq (.list t) xs (bt.eval x):=an;obtain ⟨A,m,c,a8,ad,vv,rj⟩:=cJ.list yC;obtain ⟨ti,fu,eI⟩:=hP a7.ty;have hu:=(kL tab fu eI).1;have hw:Region.wanted o (yielded ops bt.tmps)=true:=by simp[Region.wanted,a7.guard]
 simp only[wpListIn];rw[if_pos hw];have he:(execOp bt.eval o).run P aq=.ok (.value (.bool A.isNone)) aq:=by simp only[execOp,a7.op,a8];rw[show bt.eval (.const (.slice none 0 0))=.slice none 0 0 from rfl];simp[eqGuard,binOp,aoL hu]
 have key: ∀b,A.isNone=b->gM ⟨dM.regs.put I (.dat .bool b),dM.heap⟩->bx .normal (bt.put o.dst (.bool A.isNone)) aq:=by
  intro b L aT;rw[L];have cr:dv ax aJ aq nt ⟨dM.regs.put I (.dat .bool b),dM.heap⟩ (bt.put o.dst (.bool b)):=by
   have oC: ∀e,o.dst=some e->e<nt.n:=λe he=>by have:=ao.2;unfold pS at this;rw[he]at this;simpa using this
   have:=s1.after s1.heap (Step.refl _ _ _ _) (eo.refl _ _) oC (r:=.dat .bool b) (v:=.bool b) (h3 (cJ.bool.2 rfl)) (by simp[K.ids]);rw[a7.dst]at this ⊢;exact this
  exact k _ _ _ _ _ aT cr t1 bf
 refine uP (λc au=>by rw[a7.op]at au;cases au) ?_;rw[he];simp only[Oper.uponIn_value];cases A with
 |none=>
  have bW:xs=[]:=kZ (by
   rcases rj with h |⟨b,o,cs,h,_⟩
   ·omega
   ·cases h)
  exact key true rfl (a7.yes bW)
 |some amd=>exact key false rfl a7.no
theorem atI [Env] {F:bn} (tab:cT P F.cx) (c8:cd P F.Γ) (hm:P.follows .mixedOrders=true): ∀(c:Code) (k:Nat) (st:bX) (gM:ei->bX->Prop) (φ:bP) (ι:Nat->aA) (w:bm) (a:Act) (bx:Exit->Act->bm->Prop),k0 F c k st gM->
  (∀s∈eC c k,hq P F nt.n s.1 s.2)->hB nt.n c=true->(e2 c=false/\gD c=false)->dv φ ι w nt st a->gW F.m st.heap->
  (∀e bb bt aq ax aJ,gM e bb->dv ax aJ aq nt bb bt->Step φ ι w st.heap ax aJ aq bb.heap->ih F.m ι st.heap aJ bb.heap->bx (k3 e) bt aq)->c.wpIn (e9 nt.ro) 0 P bx a w:=by
 intro c
 induction c with
 |seq x y jw jx=>
  intro k st gM φ ι w a bx h ad au c2 cr lm c9;simp only[k0]at h;rcases h with ⟨e,bb,q,G⟩|h
  ·exact nR tab c8 hm _ k st e bb φ ι w a bx q ad au (eU _ c2.1) (iK.no c2.1 c2.2) cr lm λbt aq ax aJ cY sp b4=>c9 e bb bt aq ax aJ G cY sp b4
  simp only[hB,bQ]at au;simp only[e2,gD,Bool.or_eq_false_iff]at c2;refine wpIn_seq (jw k st _ φ ι w a _ h (λs aP=>ad s (by simp[eC,aP])) au.1 ⟨c2.1.1,c2.2.1⟩ cr lm λM cj bt aq ax aJ aT cY sp b4=> ?_);by_cases he:M=.nrm
  ·subst he;exact jx k cj gM ax aJ aq bt bx (aT.1 rfl) (λs aP=>ad s (by simp[eC,aP])) au.2 ⟨c2.1.2,c2.2.2⟩ cY (b4.live lm) λV dM a2 dc eh en ll kh pF m9=>c9 V dM a2 dc eh en ll kh (sp.trans pF) (b4.trans m9)
  ·have aP:=c9 M cj bt aq ax aJ (aT.2 he) cY sp b4;cases M with
   |nrm=>exact absurd rfl he
   |exit i=>exact aP
   |ret=>exact aP
 |cond c x y jw jx=>
  intro k st gM φ ι w a bx h ad au c2 cr lm c9;simp only[k0]at h;rcases h with ⟨e,bb,q,G⟩|h
  ·exact nR tab c8 hm _ k st e bb φ ι w a bx q ad au (eU _ c2.1) (iK.no c2.1 c2.2) cr lm λbt aq ax aJ cY sp b4=>c9 e bb bt aq ax aJ G cY sp b4
  obtain ⟨I,t,rfl,ao,aX,aM⟩:=h;simp only[hB,bQ]at au;simp only[e2,gD,Bool.or_eq_false_iff]at c2;have L:=(cr.regs I _ ao).1;have ct:I≠dK:=λe=>by have G:=cJ.bool.1 L;rw[e,qM]at G;cases G
  rw[iP ct]at L;have L:a.eval (.tmp I)=.bool t:=cJ.bool.1 L;refine wpIn_cond L ?_;cases t
  ·exact jx k st gM φ ι w a bx (aM rfl) (λs aP=>ad s (by simp[eC,aP])) au.2 ⟨c2.1.2,c2.2.2⟩ cr lm c9
  ·exact jw k st gM φ ι w a bx (aX rfl) (λs aP=>ad s (by simp[eC,aP])) au.1 ⟨c2.1.1,c2.2.1⟩ cr lm c9
 |region id ops draw=>
  intro k st gM φ ι w a bx h ad au c2 cr lm c9;cases draw with
  |true=>
   simp only[k0]at h;obtain ⟨e,bb,q,G⟩:=h;exact nR tab c8 hm _ k st e bb φ ι w a bx q ad au (eU _ c2.1) (iK.no c2.1 c2.2) cr lm λbt aq ax aJ cY sp b4=>c9 e bb bt aq ax aJ G cY sp b4
  |false=>
   simp only[k0]at h;rcases h with ⟨e,bb,q,G⟩|⟨bb,q,G⟩|⟨os,o,T,x,I,dM,t,xs,jo⟩
   ·exact nR tab c8 hm _ k st e bb φ ι w a bx q ad au (eU _ c2.1) (iK.no c2.1 c2.2) cr lm λbt aq ax aJ cY sp b4=>c9 e bb bt aq ax aJ G cY sp b4
   ·exact wpIn_region_list (FQ tab c8 ops.toList st bb φ ι w a q cr au (λh=>absurd (c2.2.symm.trans h) aU) λbt aq ax aJ cY sp b4=>c9 .nrm bb bt aq ax aJ G cY sp (b4.keepM _))
   ·exact aqK tab c8 jo au c2.2 cr λbb bt aq ax aJ aT cY sp b4=>c9 .nrm bb bt aq ax aJ aT cY sp (b4.keepM _)
 |_=>
  intro k st gM φ ι w a bx h ad au c2 cr lm c9;simp only[k0]at h;obtain ⟨e,bb,q,G⟩:=h;exact nR tab c8 hm _ k st e bb φ ι w a bx q ad au (eU _ c2.1) (iK.no c2.1 c2.2) cr lm λbt aq ax aJ cY sp b4=>c9 e bb bt aq ax aJ G cY sp b4
def VD [Env] (F:bn) (fn:Func) (Z:Shape) (z:Z.ty.den) (e:ei) (st:bX):Prop:=
 (e=.nrm\/e=.ret)/\(((l4 F.cx st.regs 0 fn.results.toList).run st.heap st.heap.length .none).bind λ(R,h,_,_)=>Z.take F.m ⟨R,h⟩).val=some z
theorem atJ [Env] {F:bn} (tab:cT P F.cx) (c8:cd P F.Γ) (hm:P.follows .mixedOrders=true) {f:FuncId} {fn:Func} {c:Code} {S Z:Shape} (aM:P.funcs[f]? =some fn) (L:fn.body=some c) (cI:nz fn S Z=true) (ea: ∀s∈eC c 0,hq P F fn.ntmps s.1 s.2) (c2:e2 c=false)
  {args:List K} (fk:F.m=S.objs.length) {d:S.ty.den} {z:Z.ty.den} (af:S.dec ⟨fX 0 args,J⟩=some d) (e:k0 F c 0 (S.enc d) (VD F fn Z z)):km P f args J (kj (Z.enc z).regs) (Z.enc z).heap:=by
 have hb:=Shape.dec_enc af;simp only[nz,L,bQ,eS,dS]at cI;obtain ⟨⟨⟨⟨⟨⟨oE,jW⟩,h6⟩,ir⟩,nI⟩,nJ⟩,nK⟩:=cI;have h6:=hg h6;have ir:=hg ir;have iO:args.length=S.regs.length/\J.length=S.objs.length:=by
  unfold Shape.dec at af;simp only at af;cases aV:jg S.regs (fX 0 args) with
  |none=>simp[aV]at af
  |some x=>
   cases L:fY S.objs J with
   |none=>simp[aV,L]at af
   |some y=>
    refine ⟨by rw[<-zD _ _ _ aV,(oK args 0).2.1],?_⟩;have: ∀(d:List dX) (R:List aH) (l:List eP),fY d R=some l->R.length=d.length:=by
     intro d
     induction d with
     |nil=>intro R l h;cases R<;>simp[fY]at h ⊢
     |cons a d aO=>
      intro R l h;cases R with
      |nil=>simp[fY]at h
      |cons b R=>
       simp only[fY]at h;split at h
       ·obtain ⟨b,L,-⟩:=ib.1 h;simp[aO R b L]
       ·cases h
    exact this _ _ _ L
 refine ⟨⟨fn,aM,nI,by rw[L];rfl⟩,?_⟩
 ·intro φ ι w aQ ek e4 fF fs;refine xD aM L ?_;have eN:aQ.size=args.length:=by
   have: ∀(l:List K) (aQ:List aA),K.relT φ ι w l aQ->aQ.length=l.length:=by
    intro l
    induction l with
    |nil=>intro aQ h;simp only[K.relT]at h;simp[h]
    |cons r l aO=>intro aQ h;obtain ⟨v,m,rfl,-,h⟩:=h;simp[aO m h]
   simpa using this _ _ fF
  have eb:aQ.size<=fn.ntmps:=by rw[eN,iO.1];exact hg nJ
  have lx:dv φ ι w ⟨fn.ntmps,w.heap.size,[],none,false⟩ (S.enc d) {tmps:=aQ++Array.replicate (fn.ntmps-aQ.size) undef,defers:=[]}:=by
   rw[hb];refine ⟨ek,λI r ao=> ?_,by simp;omega,h6,n9 (ca _)⟩;obtain ⟨bf,a6,cq⟩:=oK args 0;obtain ⟨k,ag,hn⟩:=nd _ 0 I r (by rw[bf,a6]) ao;have eA:I=k:=u;subst eA;have bR:=cq I (I,r) hn;simp only at bR;obtain ⟨v,a8,jv⟩:=ub fF bR;have fa:aQ[I]? =some v:=by simpa using a8
   have lQ:I<aQ.size:=(kY.1 fa).1;have:(aQ++Array.replicate (fn.ntmps-aQ.size) undef).getD I undef=v:=by rw[ji,Array.getElem?_append_left lQ,fa];rfl
   rw[iP u,this];exact ⟨jv,λi E=>fs i (ud bR i E)⟩
  have ph:(S.enc d).heap=J:=by rw[hb]
  have jM:gW F.m (S.enc d).heap:=by rw[ph,fk,<-iO.2];exact λo ab=>e4 o ab
  refine atI tab c8 hm c 0 _ _ φ ι w _ _ e ea oE ⟨c2,jW⟩ lx jM λM cj bt aq ax aJ aT cY sp b4=> ?_
  obtain ⟨W,aC⟩:=aT;rw[ph]at sp;refine E1 W cY sp λaq cY sp=> ?_
  obtain ⟨⟨R,bd,ke,tB⟩,bD,dU⟩:=DT.val_bind_some aC;have kK:=HM.go_run _ _ _ _ _ _ _ _ bD;have kO:(Z.enc z).regs.map (·.1)=List.range' 0 fn.results.size:=by
   obtain ⟨⟨bb,bg,y1,pp⟩,bf,a6⟩:=DT.val_bind_some dU;simp only[DT.val_ofOpt]at a6;have cq:(Z.enc z).regs.map (·.1)=Z.regs.map (·.1):=by
    unfold Shape.dec at a6;cases aV:jg Z.regs bb.regs with
    |none=>simp[aV]at a6
    |some x=>
     cases L:fY Z.objs bb.heap with
     |none=>simp[aV,L]at a6
     |some y=>
      have:=rM _ _ x [] aV;rw[Shape.dec_enc (st:=bb) (by simp only[Shape.dec,aV,L]at a6 ⊢;exact a6)];exact wg _ _ _ _ this
   rw[cq,nK]
  have lr:=b4.live jM;obtain ⟨bq,bU,us,dD,dx,gw,hC⟩:=wu tab fn.results.toList 0 R cj.heap _ bd ke kK cY.heap cY.regs;have kq:R.length=us.length:=by have:=congrArg List.length gw;simpa [dx] using this
  have kh:dv ax aJ aq ⟨us.toArray.size,0,[],none,false⟩ ⟨R,bd⟩ {tmps:=us.toArray,defers:=[]}:=by
   rw[bq];refine ⟨cY.heap,λI r ao=> ?_,rfl,by rw[List.size_toArray,dx];simpa using ir,n9 (Nat.zero_le _)⟩;obtain ⟨k,ag,hn⟩:=nd R 0 I r (by rw[gw];congr 1;omega) ao;have eA:I=k:=u;subst eA;obtain ⟨v,a8,jv,gF⟩:=hC I (I,r) hn;have:us.toArray.getD I undef=v:=by simp[ji,a8]
   have lQ:I<us.length:=(iJ.1 a8).1;have RU:fn.results.toList.length=fn.results.size:=aU;rw[iP u];simp only[this];exact ⟨jv,gF⟩
  obtain ⟨eh,en,dI,cW,eX,lZ,qj⟩:=lM dU kh (by rw[bq];exact lr);have hS:(Z.enc z).regs.length=us.toArray.size:=by have:=congrArg List.length kO;simp only[List.length_map,List.length_range']at this;rw[this];simp[dx]
  obtain ⟨ah,aS⟩:=uN (aQ:=us.toArray) (R:=(Z.enc z).regs) (by rw[kO];congr 1;simpa [dx] using hS.symm) hS (xh (a:={tmps:=us.toArray,defers:=[]}) (by rw[kO];congr 1;simpa [dx] using hS.symm) (by rw[hS,List.size_toArray,dx];simpa using ir) dI.regs);have mx:=wv dD;refine ⟨_,mx,_,eh,en,rfl,dI.heap,?_,?_,ah,aS⟩
  ·rw[bq]at cW;exact sp.trans cW
  ·rw[ph]at b4;rw[bq]at eX;have kc:=b4.trans eX;refine ⟨λo ab=> ?_,λo ab=> ?_⟩
   ·have bw:o<F.m:=by rw[fk,<-iO.2];exact gP ab
    exact (kc o bw ab).1
   ·have bw:o<F.m:=by rw[fk,<-iO.2];exact gP ab
    exact (kc o bw ab).2
end
def G4:Code->Option (Array Oper×Array Oper×Tmp×Code×Code)
 | .seq (.region _ tw false) (.seq (.seq (.region _ fI false) (.cond (.tmp I) A .skip)) B)=>some (tw,fI,I,A,B)
 |_=>none
def wI:List Oper->Option (List Oper×Oper)
 |[]=>none
 |[o]=>some ([],o)
 |o::l=>match wI l with
  |some (os,s)=>some (o::os,s)
  |none=>none
def P4 (y:Operand):Bool:=match y with
 | .const (.slice none 0 0)=>true
 |_=>false
def BK [Env] (F:bn) (fn:Func) (Z:Shape) (c:Code) (gT:bX) (b:Bool):DT (Z.ty.den×Nat):=match G4 c with
 |some (tw,fI,I,A,B)=>(oU F.cx F.Γ tw tw.toList gT).bind λcj=>match wI fI.toList with
  |some (os,o)=>match o.op,o.dst,o.guard with
   | .binOp .eql T x y U,some lI,none=>bif Nat.beq I lI&&P4 y&&Nat.beq U T then
     (oU F.cx F.Γ fI os cj).bind λdM=>match h2 dM.regs x with
      | .dat (.list t) a1=>bif F.cx.isTy T (.list t) then
        (gf F (match b with |true=>A |false=>B) 0 ⟨dM.regs.put I (.dat .bool b),dM.heap⟩).bind λs=>match s.1 with
         | .ret=>(((l4 F.cx s.2.regs 0 fn.results.toList).run s.2.heap s.2.heap.length .none).bind λ(R,h,_,_)=>Z.take F.m ⟨R,h⟩).bind λz=>.leaf (z,a1.length)
         |_=>.fail
       else .fail
      |_=>.fail
    else .fail
   |_,_,_=>.fail
  |none=>.fail
 |none=>.fail
theorem Yx: ∀{l:List Oper} {os:List Oper} {o:Oper},wI l=some (os,o)->l=os++[o]
 |[],_,_,h=>by simp[wI]at h
 |[a],os,o,h=>by simp only[wI,bM,c0]at h;obtain ⟨rfl,rfl⟩:=h;rfl
 |a::b::l,os,o,h=>by
  simp only[wI]at h;split at h
  ·rename_i aAq s aP;simp only[bM,c0]at h;obtain ⟨rfl,rfl⟩:=h;have:=Yx (l:=b::l) aP;rw[this];rfl
  ·cases h
theorem are {c:Code} {tw fI:Array Oper} {I:Tmp} {A B:Code} (h:G4 c=some (tw,fI,I,A,B)): ∃i0 i1,c=.seq (.region i0 tw false) (.seq (.seq (.region i1 fI false) (.cond (.tmp I) A .skip)) B):=by
 unfold G4 at h;split at h
 ·simp only[bM,c0]at h;obtain ⟨rfl,rfl,rfl,rfl,rfl⟩:=h;exact ⟨_,_,rfl⟩
 ·cases h
theorem aee {α:Type} {x:DT α} {a b:α} (h:x.val=some a) (g:x.val=some b):a=b:=by rw[h]at g;exact eY g
theorem asc [Env] {F:bn} {fn:Func} {Z:Shape} {c:Code} {gT:bX} {z E2:Z.ty.den} {n aw6:Nat} (b9:(BK F fn Z c gT true).val=some (E2,aw6)) (fj:(BK F fn Z c gT false).val=some (z,n)) (bW:n=0->E2=z):k0 F c 0 gT (VD F fn Z z):=by
 unfold BK at b9 fj;cases au:G4 c with
 |none=>rw[au]at fj;simp[DT.val]at fj
 |some s=>
  obtain ⟨tw,fI,I,A,B⟩:=s;rw[au]at b9 fj;obtain ⟨i0,i1,rfl⟩:=are au;simp only at b9 fj;obtain ⟨cj,M,fj⟩:=DT.val_bind_some fj;obtain ⟨tO,gA,b9⟩:=DT.val_bind_some b9;obtain rfl:=aee M gA;clear gA;cases af:wI fI.toList with
  |none=>rw[af]at fj;simp[DT.val]at fj
  |some s=>
   obtain ⟨os,o⟩:=s;rw[af]at b9 fj;simp only at b9 fj;split at fj
   case h_2=>simp[DT.val]at fj
   rename_i T x y U lI ab ao bB;rw[ab,ao,bB]at b9;simp only at b9;cases L:Nat.beq I lI&&P4 y&&Nat.beq U T
   ·rw[L]at fj;simp[DT.val]at fj
   rw[L,aj]at b9 fj;simp only[bQ,Nat.beq_eq]at L;obtain ⟨⟨rfl,bu⟩,rfl⟩:=L;obtain rfl:y=.const (.slice none 0 0):=by
    unfold P4 at bu;split at bu
    ·rfl
    ·cases bu
   obtain ⟨dM,V,fj⟩:=DT.val_bind_some fj;obtain ⟨Tc,mV,b9⟩:=DT.val_bind_some b9;obtain rfl:=aee V mV;clear mV;split at fj
   case h_2=>simp[DT.val]at fj
   rename_i t a1 an;rw[an]at b9;simp only at b9;cases eI:F.cx.isTy U (.list t)
   ·rw[eI]at fj;simp[DT.val]at fj
   rw[eI,aj]at b9 fj;obtain ⟨⟨aep,tP⟩,f1,fj⟩:=DT.val_bind_some fj;obtain ⟨⟨aeq,ays⟩,t1,b9⟩:=DT.val_bind_some b9;simp only at f1 t1 fj b9;have ax1:aep=.ret:=by cases aep<;>first |rfl |simp[DT.val]at fj
   have ax2:aeq=.ret:=by cases aeq<;>first |rfl |simp[DT.val]at b9
   subst ax1 ax2;obtain ⟨mI,f2,fj⟩:=DT.val_bind_some fj;obtain ⟨z2,t2,b9⟩:=DT.val_bind_some b9;simp only[DT.val,bM,c0]at fj b9;obtain ⟨rfl,rfl⟩:=fj;obtain ⟨rfl,rfl⟩:=b9;have afF: ∀b,(dM.regs.put I (.dat .bool b)).get I=some (.dat .bool b):=λb=>by rw[bS.get_put,if_pos rfl]
   refine .inr (.inr (.inl ⟨cj,M,λ_=> ?_,λh=>absurd rfl h⟩));refine .inr (.inr (.inr (.inr ⟨os,o,U,x,I,dM,t,a1,⟨Yx af,ab,ao,bB,V,an,eI,λSb=>⟨λ_=> ?_,λh=>absurd rfl h⟩,⟨λ_=> ?_,λh=>absurd rfl h⟩⟩⟩)))
   ·have bK:=bW (by rw[Sb];rfl);subst bK;exact .inr ⟨I,true,rfl,afF true,λ_=>k0.det ⟨.ret,ays,t1,λh=>(by cases h),λ_=>⟨.inr rfl,t2⟩⟩,λh=>by cases h⟩
   ·exact .inr ⟨I,false,rfl,afF false,λh=>(by cases h),λ_=>k0.det ⟨.nrm,_,rfl,λ_=>k0.det ⟨.ret,tP,f1,.inr rfl,f2⟩,λh=>absurd rfl h⟩⟩
theorem acb [Env] {P:cA} {F:bn} (tab:cT P F.cx) (c8:cd P F.Γ) (hm:P.follows .mixedOrders=true) {cO:aZ} {fn:Func} (aM:P.funcs[cO.f]? =some fn) (L:fn.body=some (b7 fn)) (cI:nz fn cO.S cO.Z=true) (ad:eC (b7 fn) 0=[]) (c2:e2 (b7 fn)=false)
  (fk:F.m=cO.S.objs.length) (room:cO.S.ty.den->Bool) (out E2:cO.S.ty.den->cO.Z.ty.den) (n:cO.S.ty.den->Nat) (bB: ∀d,cO.g d=bif room d then some (out d) else none) (fj: ∀d,(BK F fn cO.Z (b7 fn) (cO.S.enc d) false).val=bif room d then some (out d,n d) else none)
  (b9: ∀d,(BK F fn cO.Z (b7 fn) (cO.S.enc d) true).val=some (E2 d,n d)) (bW: ∀d,n d=0->E2 d=out d):cE P cO:=by
 intro args J d z af bK;rw[bB]at bK;cases ar:room d
 ·rw[ar]at bK;cases bK
 ·rw[ar,aj]at bK;obtain rfl:=eY bK;have aeO:=fj d;rw[ar,aj]at aeO;exact atJ tab c8 hm aM L cI (by rw[ad];simp) c2 fk af (asc (b9 d) aeO (bW d))
open Go.RowKit
abbrev mc (cx:cm) (Γ:hN) (Λ:Nat->bX->DT (ei×bX)) (m:Nat):bn:={cx:=cx,Γ:=Γ,Λ:=Λ,keep:=λ_=>none,m:=m}
def FG [Env] (cx:cm) (Γ:hN) (f:FuncId) (fn:Func) (Δ:hN):hN:=Aw f (LF (mc cx Γ (λ_ _=>.fail) 0) fn) Δ
section
variable {P:cA}
theorem xi [Env] {F:bn} {nt k:Nat} {c:Code} (h: ∀st,F.Λ k st=.fail):hq P F nt k c:=λ_ st e bb φ ι w a bx _ _ a8=>by rw[h]at a8;cases a8
theorem A9 [Env] {f:FuncId} {S Z:Shape}:cE P ⟨f,S,Z,λ_=>none⟩:=λ_ _ _ _ _ h=>by cases h
theorem xq: ∀(k:Nat) (l m:List K),fX k l=fX k m->l=m
 |_,[],[],_=>rfl
 |_,[],_::_,h=>by simp[fX]at h
 |_,_::_,[],h=>by simp[fX]at h
 |k,a::l,b::m,h=>by simp only[fX,List.cons.injEq,c0,true_and]at h;rw[h.1,xq (k+1) l m h.2]
theorem alU [Env] {f:FuncId} {fn:Func} (aM:P.funcs[f]? =some fn) (cI:(!(fn.name== "runtime.NumGoroutine")&& !fn.body.isNone)=true) {g:List UInt8->List UInt8->Int}
  (h: ∀(a b:ByteArray) (w:bm),Calls P f #[.string a,.string b] w λe aq=>e=.returned (.int .i64 (g a.data.toList b.data.toList))/\aq=w):
  cE P ⟨f,⟨[(0,.dat .str),(1,.dat .str)],[]⟩,⟨[(0,.dat (.int .i64))],[]⟩,λd=>some (g d.1 d.2.1,())⟩:=by
 intro args J d z af bK;have hb:=Shape.dec_enc af;obtain rfl:=eY bK;obtain ⟨a,b,ae⟩:=d;have jc:(Shape.enc ⟨[(0,.dat .str),(1,.dat .str)],[]⟩ (a,b,ae))=⟨[(0,.dat .str a),(1,.dat .str b)],[]⟩:=rfl;have hb:=jc.symm.trans hb;injection hb with q G
 obtain rfl:args=[.dat .str a,.dat .str b]:=(xq 0 [.dat .str a,.dat .str b] args q).symm;subst G;simp only[bQ,eS]at cI;refine ⟨⟨fn,aM,cI.1,cI.2⟩,fun φ ι w aQ ek e4 fF fs=> ?_⟩;obtain ⟨v1,dI,M,ah,v2,cW,V,aS,hm⟩:=fF;simp only[K.relT]at hm;subst hm V;have gA:v1=.string ⟨⟨a⟩⟩:=cJ.str.1 ah;have mV:v2=.string ⟨⟨b⟩⟩:=cJ.str.1 aS;subst gA mV;obtain rfl:aQ= #[.string ⟨⟨a⟩⟩,.string ⟨⟨b⟩⟩]:=by cases aQ;simp at M;simp[M]
 refine (h ⟨⟨a⟩⟩ ⟨⟨b⟩⟩ w).mono ?_;rintro e aq ⟨rfl,rfl⟩;exact ⟨_,φ,ι,rfl,ek,Step.refl _ _ _ _,eo.refl _ _,h3 (cJ.int.2 rfl),λi E=>absurd (show i∈([]:List Nat) from E) aU⟩
theorem alT [Env] {f:FuncId} {fn:Func} (aM:P.funcs[f]? =some fn) (cI:(!(fn.name== "runtime.NumGoroutine")&& !fn.body.isNone)=true) {g:List UInt8->Int->Int}
  (h: ∀(a:ByteArray) (c:Int) (w:bm),Calls P f #[.string a,.int .u8 c] w λe aq=>e=.returned (.int .i64 (g a.data.toList c))/\aq=w):
  cE P ⟨f,⟨[(0,.dat .str),(1,.dat (.int .u8))],[]⟩,⟨[(0,.dat (.int .i64))],[]⟩,λd=>some (g d.1 d.2.1,())⟩:=by
 intro args J d z af bK;have hb:=Shape.dec_enc af;obtain rfl:=eY bK;obtain ⟨a,b,ae⟩:=d;have jc:(Shape.enc ⟨[(0,.dat .str),(1,.dat (.int .u8))],[]⟩ (a,b,ae))=⟨[(0,.dat .str a),(1,.dat (.int .u8) b)],[]⟩:=rfl;have hb:=jc.symm.trans hb;injection hb with q G
 obtain rfl:args=[.dat .str a,.dat (.int .u8) b]:=(xq 0 [.dat .str a,.dat (.int .u8) b] args q).symm;subst G;simp only[bQ,eS]at cI;refine ⟨⟨fn,aM,cI.1,cI.2⟩,fun φ ι w aQ ek e4 fF fs=> ?_⟩;obtain ⟨v1,dI,M,ah,v2,cW,V,aS,hm⟩:=fF;simp only[K.relT]at hm;subst hm V;have gA:v1=.string ⟨⟨a⟩⟩:=cJ.str.1 ah;have mV:v2=.int .u8 b:=cJ.int.1 aS;subst gA mV;obtain rfl:aQ= #[.string ⟨⟨a⟩⟩,.int .u8 b]:=by cases aQ;simp at M;simp[M]
 refine (h ⟨⟨a⟩⟩ b w).mono ?_;rintro e aq ⟨rfl,rfl⟩;exact ⟨_,φ,ι,rfl,ek,Step.refl _ _ _ _,eo.refl _ _,h3 (cJ.int.2 rfl),λi E=>absurd (show i∈([]:List Nat) from E) aU⟩
end
open Go.RowKit
abbrev lD:=List (Nat×(bX->DT (ei×bX)))
def Ht:lD->Option Nat->Option (bX->DT (ei×bX))
 |_,none=>none
 |[],some _=>none
 |(j,g)::l,some i=>bif Nat.beq i j then some g else Ht l (some i)
def gQ [Env] (F:bn) (C:lD):Code->Nat->bX->DT (ei×bX)
 | .seq a b,k,st=>(gQ F C a k st).bind λ(e,bb)=>match e with
  | .nrm=>match Ht C (pR b) with
   |some g=>g bb
   |none=>gQ F C b k bb
  |e=>.leaf (e,bb)
 | .cond c a b,k,st=>match mB (h2 st.regs c) with
  |some t=>match c with
   | .tmp I=>.br t (gQ F C a k ⟨refine st.regs I true,st.heap⟩) (gQ F C b k ⟨refine st.regs I false,st.heap⟩)
   |_=>.br t (gQ F C a k st) (gQ F C b k st)
  |none=>.fail
 | .block id c,_,st=>(gQ F C c id st).bind λ(e,bb)=>match e with
  | .exit i=>bif Nat.beq i id then .leaf (.nrm,bb) else .leaf (.exit i,bb)
  |e=>.leaf (e,bb)
 | .scope c,k,st=>gQ F C c k st
 |c,k,st=>gf F c k st
def jZ (C:lD):Code->List ((bX->DT (ei×bX))×Code)
 | .seq a b=>jZ C a++(match Ht C (pR b) with |some g=>[(g,b)] |none=>jZ C b)
 | .cond _ a b=>jZ C a++jZ C b
 | .block _ c=>jZ C c
 | .scope c=>jZ C c
 |_=>[]
def qL (i:Nat):Code->Option Code
 | .seq a b=>match qL i a with
  |some c=>some c
  |none=>match pR b with
   |some j=>bif Nat.beq i j then some b else qL i b
   |none=>qL i b
 | .cond _ a b=>match qL i a with |some c=>some c |none=>qL i b
 | .block _ c=>qL i c
 | .loop c=>qL i c
 | .scope c=>qL i c
 |_=>none
def e0 (c:Code) (i:Nat):Code:=(qL i c).getD .skip
def jP [Env] (P:cA) (F:bn) (n:Nat) (g:bX->DT (ei×bX)) (c:Code):Prop:=
 ∀(nt:jD) (st:bX) (e:ei) (bb:bX) (φ:bP) (ι:Nat->aA) (w:bm) (a:Act) (bx:Exit->Act->bm->Prop),nt.n=n->iK nt c->(g st).val=some (e,bb)->dv φ ι w nt st a->gW F.m st.heap->
  (∀bt aq ax aJ,dv ax aJ aq nt bb bt->Step φ ι w st.heap ax aJ aq bb.heap->ih F.m ι st.heap aJ bb.heap->bx (k3 e) bt aq)->c.wpIn (e9 nt.ro) 0 P bx a w
def BA [Env] (P:cA) (F:bn) (nt:Nat):List ((bX->DT (ei×bX))×Code)->Prop
 |[]=>True
 |s::l=>jP P F nt s.1 s.2/\BA P F nt l
theorem Pc [Env] {P:cA} {F:bn} {nt:Nat} {C:lD} {c:Code} {m:List ((bX->DT (ei×bX))×Code)} (hm:jZ C c=m) (h:BA P F nt m): ∀s∈jZ C c,jP P F nt s.1 s.2:=by
 rw[hm];clear hm
 induction m with
 |nil=>intro s aP;cases aP
 |cons p l aO=>
  intro s aP;rcases fe.1 aP with rfl |aP
  ·exact h.1
  ·exact aO h.2 s aP
section
variable {P:cA} {nt:jD} {F:bn} {C:lD}
theorem OO [Env] (tab:cT P F.cx) (c8:cd P F.Γ) (hm:P.follows .mixedOrders=true): ∀(c:Code) (k:Nat) (st:bX) (e:ei) (bb:bX) (φ:bP) (ι:Nat->aA) (w:bm) (a:Act) (bx:Exit->Act->bm->Prop),(gQ F C c k st).val=some (e,bb)->
  (∀s∈eC c k,hq P F nt.n s.1 s.2)->(∀s∈jZ C c,jP P F nt.n s.1 s.2)->hB nt.n c=true->jU P F nt.n c->iK nt c->dv φ ι w nt st a->gW F.m st.heap->
  (∀bt aq ax aJ,dv ax aJ aq nt bb bt->Step φ ι w st.heap ax aJ aq bb.heap->ih F.m ι st.heap aJ bb.heap->bx (k3 e) bt aq)->c.wpIn (e9 nt.ro) 0 P bx a w:=by
 intro c
 induction c with
 |seq x y jw jx=>
  intro k st e bb φ ι w a bx h ad eM au c2 cu cr lm c9;simp only[gQ]at h;obtain ⟨⟨M,cj⟩,q,G⟩:=DT.val_bind_some h;simp only[hB,bQ]at au;refine wpIn_seq (jw k st M cj φ ι w a _ q (λs aP=>ad s (by simp[eC,aP])) (λs aP=>eM s (by simp[jZ,aP])) au.1 c2.1 (cu.of (λh=>by simp[e2,h]) (λh=>by simp[gD,h])) cr lm λbt aq ax aJ cY sp b4=> ?_);cases M with
  |nrm=>
   simp only at G;cases bB:Ht C (pR y) with
   |some g=>
    rw[bB]at G;exact eM (g,y) (by simp[jZ,bB]) nt cj e bb ax aJ aq bt bx rfl (cu.of (λh=>by simp[e2,h]) (λh=>by simp[gD,h])) G cY (b4.live lm) λa2 dc eh en kh pF m9=>c9 a2 dc eh en kh (sp.trans pF) (b4.trans m9)
   |none=>
    rw[bB]at G;exact jx k cj e bb ax aJ aq bt bx G (λs aP=>ad s (by simp[eC,aP])) (λs aP=>eM s (by simp[jZ,bB,aP])) au.2 c2.2 (cu.of (λh=>by simp[e2,h]) (λh=>by simp[gD,h])) cY (b4.live lm) λa2 dc eh en kh pF m9=>c9 a2 dc eh en kh (sp.trans pF) (b4.trans m9)
  |exit i=>
   simp only[DT.val,bM,c0]at G;obtain ⟨rfl,rfl⟩:=G;exact c9 bt aq ax aJ cY sp b4
  |ret=>
   simp only[DT.val,bM,c0]at G;obtain ⟨rfl,rfl⟩:=G;exact c9 bt aq ax aJ cY sp b4
 |cond c x y jw jx=>
  intro k st e bb φ ι w a bx h ad eM au c2 cu cr lm c9;simp only[gQ]at h;simp only[hB,bQ]at au;split at h
  ·rename_i t aX;have a8:=NR aX (cr.eval c).1;refine wpIn_cond a8 ?_;have key: ∀(gT:bX),dv φ ι w nt gT a->gT.heap=st.heap->(bif t then (gQ F C x k gT).val else (gQ F C y k gT).val)=some (e,bb)->(if t then x else y).wpIn (e9 nt.ro) 0 P bx a w:=by
    intro gT iT bg h;rw[<-bg]at lm c9;cases t
    ·simp only[av]at h;simp only[Bool.false_eq_true,if_false];exact jx k gT e bb φ ι w a bx h (λs aP=>ad s (by simp[eC,aP])) (λs aP=>eM s (by simp[jZ,aP])) au.2 c2.2 (cu.of (λh=>by simp[e2,h]) (λh=>by simp[gD,h])) iT lm c9
    ·simp only[aj]at h;simp only[if_true];exact jw k gT e bb φ ι w a bx h (λs aP=>ad s (by simp[eC,aP])) (λs aP=>eM s (by simp[jZ,aP])) au.1 c2.1 (cu.of (λh=>by simp[e2,h]) (λh=>by simp[gD,h])) iT lm c9
   split at h
   ·rename_i I;have bR:st.regs.get I=some (.dat .bool t):=by
     simp only[h2]at aX;cases q8:Nat.beq I dK with
     |true=>simp[q8,mB]at aX
     |false=>
     simp only[q8,av]at aX;cases ao:st.regs.get I with
     |none=>rw[ao]at aX;simp[mB]at aX
     |some r=>
      rw[ao]at aX;have:=AF (R:=st.regs) (I:=I) (b:=t) (by rw[ao];exact aX);rw[ao]at this;exact this
    have iT:dv φ ι w nt ⟨refine st.regs I t,st.heap⟩ a:=cr.regs_eq (tK bR);refine key ⟨refine st.regs I t,st.heap⟩ iT rfl ?_;cases t
    ·simp only[DT.val,av]at h ⊢;exact h
    ·simp only[DT.val,aj]at h ⊢;exact h
   ·exact key st cr rfl (by simpa only[DT.val] using h)
  ·simp[DT.val]at h
 |block id c aO=>
  intro k st e bb φ ι w a bx h ad eM au c2 cu cr lm c9;simp only[gQ]at h;obtain ⟨⟨M,cj⟩,q,G⟩:=DT.val_bind_some h;refine wpIn_block (aO id st M cj φ ι w a _ q (λs aP=>ad s (by simpa [eC] using aP)) (λs aP=>eM s (by simpa [jZ] using aP)) au c2 (cu.of (λh=>by simpa [e2] using h) (λh=>by simpa [gD] using h)) cr lm λbt aq ax aJ cY sp b4=> ?_);cases M with
  |nrm=>
   simp only[DT.val,bM,c0]at G;obtain ⟨rfl,rfl⟩:=G;exact c9 bt aq ax aJ cY sp b4
  |exit i=>
   simp only at G;cases L:Nat.beq i id
   ·simp only[L,av,DT.val,bM,c0]at G;obtain ⟨rfl,rfl⟩:=G;have ct: ¬i=id:=λh=>by subst h;simp at L
    simp only[k3,Exit.inBlock,if_neg ct];exact c9 bt aq ax aJ cY sp b4
   ·simp only[L,aj,DT.val,bM,c0]at G;obtain ⟨rfl,rfl⟩:=G;have:i=id:=by simpa using L
    simp only[k3,Exit.inBlock,if_pos this];exact c9 bt aq ax aJ cY sp b4
  |ret=>
   simp only[DT.val,bM,c0]at G;obtain ⟨rfl,rfl⟩:=G;exact c9 bt aq ax aJ cY sp b4
 |scope c aO=>
  intro k st e bb φ ι w a bx h ad eM au c2 cu cr lm c9;simp only[gQ]at h;refine abt (aO k st e bb φ ι w a _ h (λs aP=>ad s (by simpa [eC] using aP)) (λs aP=>eM s (by simpa [jZ] using aP)) au c2 (cu.of (λh=>by simpa [e2] using h) (λh=>by simpa [gD] using h)) cr lm λbt aq ax aJ cY sp b4=> ?_);have:=c9 bt aq ax aJ cY sp b4;cases e<;>exact this
 |_=>
  intro k st e bb φ ι w a bx h ad eM au c2 cu cr lm c9;exact nR tab c8 hm _ k st e bb φ ι w a bx (by simpa only[gQ] using h) ad au c2 cu cr lm c9
theorem lX [Env] {n:Nat} (tab:cT P F.cx) (c8:cd P F.Γ) (hm:P.follows .mixedOrders=true) {ay:bO} {c:Code} {k:Nat} {f:ay.S.ty.den->Option ay.Out} {l:List (Nat×Code)} {m:List ((bX->DT (ei×bX))×Code)} (ad:eC c k=l) (ea:oW P F n l) (eM:jZ C c=m) (q6:BA P F n m) (au:hB n c=true) (c2:jU P F n c)
  (aM: ∀d,((gQ F C c k (ay.S.enc d)).bind λ(e,st)=>ay.out F.m e st).val=f d):jP P F n (ay.go f F.m) c:=by
 intro nt st e bb φ ι w a bx aN cu h cr lm c9;subst aN;unfold bO.go at h;obtain ⟨d,M,V⟩:=DT.val_bind_some h;obtain ⟨dF,fo,bf,a6,cq,ef,gS⟩:=lM M cr lm;obtain ⟨o,ab,he⟩: ∃o,f d=some o/\(e,bb)=ay.fin o:=by
  cases j9:f d with
  |none=>simp[j9,DT.val]at V
  |some o=>
   refine ⟨o,rfl,?_⟩;cases o with
   |inl x=>simp only[j9,DT.val,bM]at V;exact V.symm
   |inr y=>simp only[j9,DT.val,bM]at V;exact V.symm
 have L:=(aM d).trans ab;obtain ⟨⟨aY,n0⟩,q,G⟩:=DT.val_bind_some L;refine OO tab c8 hm c k _ aY n0 dF fo w a _ q (uD ad ea) (Pc eM q6) au c2 cu bf (cq.live lm) λbt aq ax aJ cY sp b4=> ?_
 obtain ⟨kM,eh,en,dI,cW,eX⟩:=bO.out_sound G cY (b4.live (cq.live lm));have s4:e=(ay.fin o).1/\bb=(ay.fin o).2:=by rw[<-he];exact ⟨rfl,rfl⟩
 rw[kM];have:=c9 bt aq eh en;rw[s4.1,s4.2]at this;exact this dI ((a6.trans sp).trans cW) ((cq.trans b4).trans eX)
end
open Go.RowKit
def su [Env] (F:bn) (C:lD) (fn:Func) (S Z:Shape) (d:S.ty.den):DT Z.ty.den:=
 (gQ F C (fn.body.getD .skip) 0 (S.enc d)).bind λ(e,st)=>match e with
  | .exit _=>.fail
  |_=>((l4 F.cx st.regs 0 fn.results.toList).run st.heap st.heap.length .none).bind λ(R,h,_,_)=>Z.take F.m ⟨R,h⟩
def bO.bodyK [Env] (ay:bO) (F:bn) (C:lD) (c:Code) (k:Nat) (d:ay.S.ty.den):DT (ay.S.ty.den⊕ay.Out):=
 (gQ F C c k (ay.S.enc d)).bind λ(e,st)=>match e with
  | .nrm=>(ay.S.take F.m st).bind λd=>.leaf (.inl d)
  |e=>(ay.out F.m e st).bind λo=>.leaf (.inr o)
section
variable {P:cA} {cx:cm} {Γ:hN} {φ:bP} {ι:Nat->aA} {w:bm} {nt:jD} {st bb:bX} {a:Act} {J:List aH}
theorem ar7 [Env] {F:bn} {C:lD} (tab:cT P F.cx) (c8:cd P F.Γ) (hm:P.follows .mixedOrders=true) {ay:bO} {c:Code} {k:Nat} {f:ay.S.ty.den->Option ay.Out} (nO:F.Λ k=ay.go f F.m) {n:Nat} (ea: ∀s∈eC c k,hq P F n s.1 s.2) (q6: ∀s∈jZ C c,jP P F n s.1 s.2) (au:hB n c=true) (c2:jU P F n c)
  (aM: ∀d o,f d=some o-> ∃n,gi (λd=>(ay.bodyK F C c k d).val) n d=some o):hq P F n k c:=by
 intro nt st e bb φ ι w a bx aN cu h cr lm c9;subst aN;rw[nO]at h;unfold bO.go at h;obtain ⟨d,M,V⟩:=DT.val_bind_some h;obtain ⟨dF,fo,bf,a6,cq,ef,gS⟩:=lM M cr lm;obtain ⟨o,ab,he⟩: ∃o,f d=some o/\(e,bb)=ay.fin o:=by
  cases j9:f d with
  |none=>simp[j9,DT.val]at V
  |some o=>
   refine ⟨o,rfl,?_⟩;cases o with
   |inl x=>simp only[j9,DT.val,bM]at V;exact V.symm
   |inr y=>simp only[j9,DT.val,bM]at V;exact V.symm
 obtain ⟨n,aN⟩:=aM d o ab;refine wpIn_loop_rounds n ?_;have key: ∀n d φ ι w a,gi (λd=>(ay.bodyK F C c k d).val) n d=some o->dv φ ι w nt (ay.S.enc d) a->gW F.m (ay.S.enc d).heap->
   (∀bt aq ax aJ,dv ax aJ aq nt (ay.fin o).2 bt->Step φ ι w (ay.S.enc d).heap ax aJ aq (ay.fin o).2.heap->ih F.m ι (ay.S.enc d).heap aJ (ay.fin o).2.heap->bx (k3 (ay.fin o).1) bt aq)->Code.roundsIn (e9 nt.ro) 0 P c bx n a w:=by
  intro n
  induction n with
  |zero=>intro d φ ι w a h;cases h
  |succ n aO=>
   intro d φ ι w a h cr lm c9;simp only[gi]at h;rw[roundsIn_succ];cases L:(ay.bodyK F C c k d).val with
   |none=>simp[L]at h
   |some r=>
    simp only[L]at h;have h4:=L;unfold bO.bodyK at h4;obtain ⟨⟨M,cj⟩,q,G⟩:=DT.val_bind_some h4;refine OO tab c8 hm c k _ M cj φ ι w a _ q ea q6 au c2 (cu.of (λh=>h) (λh=>h)) cr lm λbt aq ax aJ cY sp b4=> ?_
    by_cases m2:M=.nrm
    ·subst m2;obtain ⟨t,W,aC⟩:=DT.val_bind_some G;simp only[DT.val,bM]at aC;subst aC;simp only at h;obtain ⟨eh,en,dI,cW,eX,lZ,qj⟩:=lM W cY (b4.live lm);exact aO t eh en aq bt h dI (eX.live (b4.live lm)) λa2 dc mK mJ D1 Tb SF=>c9 a2 dc mK mJ D1 ((sp.trans cW).trans Tb) ((b4.trans eX).trans SF)
    ·rw[acj m2];have bd:((ay.out F.m M cj).bind λo=>DT.leaf (Sum.inr (α:=ay.S.ty.den) o)).val=some r:=by
      cases M with
      |nrm=>exact absurd rfl m2
      |exit i=>exact G
      |ret=>exact G
     obtain ⟨jh,W,aC⟩:=DT.val_bind_some bd;simp only[DT.val,bM]at aC;subst aC;simp only[bM]at h;subst h;obtain ⟨kM,eh,en,dI,cW,eX⟩:=bO.out_sound W cY (b4.live lm);rw[kM];exact c9 bt aq eh en dI (sp.trans cW) (b4.trans eX)
 have s4:e=(ay.fin o).1/\bb=(ay.fin o).2:=by rw[<-he];exact ⟨rfl,rfl⟩
 refine key n d dF fo w a aN bf (cq.live lm) λbt aq ax aJ cY sp b4=> ?_
 have:=c9 bt aq ax aJ;rw[s4.1,s4.2]at this;exact this cY (a6.trans sp) (cq.trans b4)
theorem atL [Env] {F:bn} {C:lD} (tab:cT P F.cx) (c8:cd P F.Γ) (hm:P.follows .mixedOrders=true) {f:FuncId} {fn:Func} {c:Code} {S Z:Shape} (aM:P.funcs[f]? =some fn) (L:fn.body=some c) (cI:nz fn S Z=true) (ea: ∀s∈eC c 0,hq P F fn.ntmps s.1 s.2) (q6: ∀s∈jZ C c,jP P F fn.ntmps s.1 s.2) (c2:jU P F fn.ntmps c)
  {args:List K} (fk:F.m=S.objs.length) {d:S.ty.den} {z:Z.ty.den} (af:S.dec ⟨fX 0 args,J⟩=some d) (e:(su F C fn S Z d).val=some z):km P f args J (kj (Z.enc z).regs) (Z.enc z).heap:=by
 have hb:=Shape.dec_enc af;simp only[nz,L,bQ,eS,dS]at cI;obtain ⟨⟨⟨⟨⟨⟨oE,jW⟩,h6⟩,ir⟩,nI⟩,nJ⟩,nK⟩:=cI;have h6:=hg h6;have ir:=hg ir;have iO:args.length=S.regs.length/\J.length=S.objs.length:=by
  unfold Shape.dec at af;simp only at af;cases aV:jg S.regs (fX 0 args) with
  |none=>simp[aV]at af
  |some x=>
   cases L:fY S.objs J with
   |none=>simp[aV,L]at af
   |some y=>
    refine ⟨by rw[<-zD _ _ _ aV,(oK args 0).2.1],?_⟩;have: ∀(d:List dX) (R:List aH) (l:List eP),fY d R=some l->R.length=d.length:=by
     intro d
     induction d with
     |nil=>intro R l h;cases R<;>simp[fY]at h ⊢
     |cons a d aO=>
      intro R l h;cases R with
      |nil=>simp[fY]at h
      |cons b R=>
       simp only[fY]at h;split at h
       ·obtain ⟨b,L,-⟩:=ib.1 h;simp[aO R b L]
       ·cases h
    exact this _ _ _ L
 unfold su at e;rw[L]at e;simp only[Option.getD_some]at e;obtain ⟨⟨M,cj⟩,q,G⟩:=DT.val_bind_some e;have W:M=.nrm\/M=.ret:=by
  cases M with
  |nrm=>exact .inl rfl
  |ret=>exact .inr rfl
  |exit i=>simp[DT.val]at G
 have aC:(((l4 F.cx cj.regs 0 fn.results.toList).run cj.heap cj.heap.length .none).bind λ(R,h,_,_)=>Z.take F.m ⟨R,h⟩).val=some z:=by rcases W with rfl |rfl<;>exact G
 obtain ⟨⟨R,bd,ke,tB⟩,bD,dU⟩:=DT.val_bind_some aC;have kK:=HM.go_run _ _ _ _ _ _ _ _ bD;have kO:(Z.enc z).regs.map (·.1)=List.range' 0 fn.results.size:=by
  obtain ⟨⟨bb,bg,y1,pp⟩,bf,a6⟩:=DT.val_bind_some dU;simp only[DT.val_ofOpt]at a6;have cq:(Z.enc z).regs.map (·.1)=Z.regs.map (·.1):=by
   unfold Shape.dec at a6;cases aV:jg Z.regs bb.regs with
   |none=>simp[aV]at a6
   |some x=>
    cases L:fY Z.objs bb.heap with
    |none=>simp[aV,L]at a6
    |some y=>
     have:=rM _ _ x [] aV;rw[Shape.dec_enc (st:=bb) (by simp only[Shape.dec,aV,L]at a6 ⊢;exact a6)];exact wg _ _ _ _ this
  rw[cq,nK]
 refine ⟨⟨fn,aM,nI,by rw[L];rfl⟩,?_⟩
 ·intro φ ι w aQ ek e4 fF fs;refine xD aM L ?_;have eN:aQ.size=args.length:=by
   have: ∀(l:List K) (aQ:List aA),K.relT φ ι w l aQ->aQ.length=l.length:=by
    intro l
    induction l with
    |nil=>intro aQ h;simp only[K.relT]at h;simp[h]
    |cons r l aO=>intro aQ h;obtain ⟨v,m,rfl,-,h⟩:=h;simp[aO m h]
   simpa using this _ _ fF
  have eb:aQ.size<=fn.ntmps:=by rw[eN,iO.1];exact hg nJ
  have lx:dv φ ι w ⟨fn.ntmps,w.heap.size,[],none,false⟩ (S.enc d) {tmps:=aQ++Array.replicate (fn.ntmps-aQ.size) undef,defers:=[]}:=by
   rw[hb];refine ⟨ek,λI r ao=> ?_,by simp;omega,h6,n9 (ca _)⟩;obtain ⟨bf,a6,cq⟩:=oK args 0;obtain ⟨k,ag,hn⟩:=nd _ 0 I r (by rw[bf,a6]) ao;have eA:I=k:=u;subst eA;have bR:=cq I (I,r) hn;simp only at bR;obtain ⟨v,a8,jv⟩:=ub fF bR;have fa:aQ[I]? =some v:=by simpa using a8
   have lQ:I<aQ.size:=(kY.1 fa).1;have:(aQ++Array.replicate (fn.ntmps-aQ.size) undef).getD I undef=v:=by rw[ji,Array.getElem?_append_left lQ,fa];rfl
   rw[iP u,this];exact ⟨jv,λi E=>fs i (ud bR i E)⟩
  have ph:(S.enc d).heap=J:=by rw[hb]
  have jM:gW F.m (S.enc d).heap:=by rw[ph,fk,<-iO.2];exact λo ab=>e4 o ab
  refine OO tab c8 hm c 0 _ M cj φ ι w _ _ q ea q6 oE c2 (iK.fn jW) lx jM λbt aq ax aJ cY sp b4=> ?_
  rw[ph]at sp;refine E1 W cY sp λaq cY sp=> ?_
  have lr:=b4.live jM;obtain ⟨bq,bU,us,dD,dx,gw,hC⟩:=wu tab fn.results.toList 0 R cj.heap _ bd ke kK cY.heap cY.regs;have kq:R.length=us.length:=by have:=congrArg List.length gw;simpa [dx] using this
  have kh:dv ax aJ aq ⟨us.toArray.size,0,[],none,false⟩ ⟨R,bd⟩ {tmps:=us.toArray,defers:=[]}:=by
   rw[bq];refine ⟨cY.heap,λI r ao=> ?_,rfl,by rw[List.size_toArray,dx];simpa using ir,n9 (Nat.zero_le _)⟩;obtain ⟨k,ag,hn⟩:=nd R 0 I r (by rw[gw];congr 1;omega) ao;have eA:I=k:=u;subst eA;obtain ⟨v,a8,jv,gF⟩:=hC I (I,r) hn;have:us.toArray.getD I undef=v:=by simp[ji,a8]
   have lQ:I<us.length:=(iJ.1 a8).1;have RU:fn.results.toList.length=fn.results.size:=aU;rw[iP u];simp only[this];exact ⟨jv,gF⟩
  obtain ⟨eh,en,dI,cW,eX,lZ,qj⟩:=lM dU kh (by rw[bq];exact lr);have hS:(Z.enc z).regs.length=us.toArray.size:=by have:=congrArg List.length kO;simp only[List.length_map,List.length_range']at this;rw[this];simp[dx]
  obtain ⟨ah,aS⟩:=uN (aQ:=us.toArray) (R:=(Z.enc z).regs) (by rw[kO];congr 1;simpa [dx] using hS.symm) hS (xh (a:={tmps:=us.toArray,defers:=[]}) (by rw[kO];congr 1;simpa [dx] using hS.symm) (by rw[hS,List.size_toArray,dx];simpa using ir) dI.regs);have mx:=wv dD;refine ⟨_,mx,_,eh,en,rfl,dI.heap,?_,?_,ah,aS⟩
  ·rw[bq]at cW;exact sp.trans cW
  ·rw[ph]at b4;rw[bq]at eX;have kc:=b4.trans eX;refine ⟨λo ab=> ?_,λo ab=> ?_⟩
   ·have bw:o<F.m:=by rw[fk,<-iO.2];exact gP ab
    exact (kc o bw ab).1
   ·have bw:o<F.m:=by rw[fk,<-iO.2];exact gP ab
    exact (kc o bw ab).2
end
theorem asO [Env] {P:cA} {F:bn} {C:lD} {nt:Nat} (tab:cT P F.cx) (c8:cd P F.Γ) (hm:P.follows .mixedOrders=true) {ay:bO} {c:Code} {k:Nat} {b:ay.S.ty.den->Option (ay.S.ty.den⊕ay.Out)} {f:ay.S.ty.den->Option ay.Out} (yo: ∀d,f d=b8 b d) (nO:F.Λ k=ay.go f F.m)
  {l:List (Nat×Code)} {m:List ((bX->DT (ei×bX))×Code)} (jf:eC c k=l) (ea:oW P F nt l) (vu:jZ C c=m) (q6:BA P F nt m) (au:hB nt c=true) (c2:jU P F nt c) (L: ∀d,(ay.bodyK F C c k d).val=b d):hq P F nt k c:=by
 refine ar7 (C:=C) tab c8 hm nO (uD jf ea) (Pc vu q6) au c2 λd o h=> ?_
 rw[yo]at h;obtain ⟨n,aN⟩:=Oi h;exact ⟨n,by rw[show (λd=>(ay.bodyK F C c k d).val)=b from funext L];exact aN⟩
theorem AK [Env] {P:cA} {F:bn} {C:lD} (tab:cT P F.cx) (c8:cd P F.Γ) (hm:P.follows .mixedOrders=true) {cO:aZ} {fn:Func} (aM:P.funcs[cO.f]? =some fn) (L:fn.body=some (b7 fn)) (cI:nz fn cO.S cO.Z=true)
  {l:List (Nat×Code)} {m:List ((bX->DT (ei×bX))×Code)} (jf:eC (b7 fn) 0=l) (ea:oW P F fn.ntmps l) (vu:jZ C (b7 fn)=m) (q6:BA P F fn.ntmps m) (c2:jU P F fn.ntmps (b7 fn)) (fk:F.m=cO.S.objs.length) (bB: ∀d,(su F C fn cO.S cO.Z d).val=cO.g d):cE P cO:=
 λargs J d z af bK=>atL tab c8 hm aM L cI (uD jf ea) (Pc vu q6) c2 fk af ((bB d).trans bK)
end Go.X
