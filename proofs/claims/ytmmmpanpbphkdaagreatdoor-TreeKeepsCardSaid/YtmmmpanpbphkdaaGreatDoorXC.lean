import Derived.Test.YtmmmpanpbphkdaaGreatDoorXB
import Derived.ProofKit
import Derived.OpenShut
import Derived.DataElems
import Derived.SizedLaws
import Derived.WalkKit
import Derived.ShutString
import Derived.Laws.StructEq
import Derived.Lib.Strings
import Derived.Lib.Slices
import Derived.Lib.Walk
import Derived.Lib.Bytealg
set_option linter.unusedVariables false
set_option linter.unusedSimpArgs false
namespace Go.X
open Go.RowKit
def eZ (p s:dj):dj:=⟨s.rd++p.rd,s.fz++p.fz,s.wr++p.wr⟩
theorem adI {α:Type} (x:HM α): ∀(h:List aG) (n:Nat) (p:dj),(x.run h n p).val=(x.run h n .none).val.map λr=>(r.1,r.2.1,r.2.2.1,eZ p r.2.2.2):=by
 induction x with
 |ret a=>intro h n p;simp[HM.run,DT.val,eZ,dj.none]
 |fail=>intro h n p;simp[HM.run,DT.val]
 |br b x y jr js=>intro h n p;cases b<;>simp[HM.run,DT.val]<;>first |exact jr h n p |exact js h n p
 |opt o k aR=>intro h n p;cases o<;>simp[HM.run,DT.val];exact aR _ h n p
 |alt o k l ph vE=>
  intro h n p;cases o with
  |none=>simp[HM.run,DT.val]
  |some r=>cases r<;>simp[HM.run,DT.val]<;>first |exact ph _ h n p |exact vE _ h n p
 |rdc o k aR=>
  intro h n p;simp only[HM.run];rw[aR _ h n ⟨o::p.rd,p.fz,p.wr⟩,aR _ h n ⟨o::dj.none.rd,dj.none.fz,dj.none.wr⟩,Option.map_map];congr 1;funext r;simp[eZ,dj.none]
 |frz o k aR=>
  intro h n p;simp only[HM.run];rw[aR _ n ⟨p.rd,o::p.fz,p.wr⟩,aR _ n ⟨dj.none.rd,o::dj.none.fz,dj.none.wr⟩,Option.map_map];congr 1;funext r;simp[eZ,dj.none]
 |rdw o k aR=>
  intro h n p;simp only[HM.run];rw[aR _ h n ⟨p.rd,p.fz,o::p.wr⟩,aR _ h n ⟨dj.none.rd,dj.none.fz,o::dj.none.wr⟩,Option.map_map];congr 1;funext r;simp[eZ,dj.none]
 |wr o b k aR=>
  intro h n p;simp only[HM.run];rw[aR _ n ⟨p.rd,p.fz,o::p.wr⟩,aR _ n ⟨dj.none.rd,dj.none.fz,o::dj.none.wr⟩,Option.map_map];congr 1;funext r;simp[eZ,dj.none]
 |nw b k aR=>
  intro h n p;simp only[HM.run];rw[aR _ _ _ ⟨p.rd,p.fz,n::p.wr⟩,aR _ _ _ ⟨dj.none.rd,dj.none.fz,n::dj.none.wr⟩,Option.map_map];congr 1;funext r;simp[eZ,dj.none]
 |nxt k aR=>intro h n p;simp only[HM.run];exact aR _ h n p
theorem AL {α:Type} {x:HM α} {h:List aG} {n:Nat} {p:dj} {a:α} {cB:List aG} {aJ:Nat} {s:dj} (e:(x.run h n p).val=some (a,cB,aJ,s)): ∃bw,(x.run h n .none).val=some (a,cB,aJ,bw)/\s=eZ p bw:=by rw[adI]at e;obtain ⟨⟨dF,q,dm,bw⟩,M,V⟩:=h9.1 e;simp only[c0]at V;obtain ⟨rfl,rfl,rfl,rfl⟩:=V;exact ⟨bw,M,rfl⟩
theorem A3 {α:Type} {x:HM α} {h:List aG} {n:Nat} {p:dj} {a:α} {cB:List aG} {aJ:Nat} {bw:dj} (e:(x.run h n .none).val=some (a,cB,aJ,bw)):(x.run h n p).val=some (a,cB,aJ,eZ p bw):=by rw[adI,e];rfl
structure r1 (ax:Nat) (s:dj):Prop where
 rd: ∀o∈s.rd,o<ax
 fz: ∀o∈s.fz,o<ax
 wr: ∀o∈s.wr,o<ax
theorem r1.of {ax:Nat} {s:dj} (h:Fi ax s=true):r1 ax s:=by simp only[Fi,bQ,fC]at h;exact ⟨λo W=>by simpa using h.1.1 o W,λo W=>by simpa using h.1.2 o W,λo W=>by simpa using h.2 o W⟩
theorem r1.tail {ax:Nat} {p s:dj} (h:r1 ax (eZ p s)):r1 ax s:=⟨λo W=>h.rd o (dp.2 (.inl W)),λo W=>h.fz o (dp.2 (.inl W)),λo W=>h.wr o (dp.2 (.inl W))⟩
def mW (b:Prop) [Decidable b] (x:aG):aG:=if b then x.freeze else x
theorem apn (b:aG):b.freeze.freeze=b.freeze:=by cases b<;>rfl
theorem NH (b:aG):b.freeze.mask=b.mask:=by cases b<;>rfl
theorem arm {p:Prop} [Decidable p] (b:aG):(mW p b).mask=b.mask:=by unfold mW;split<;>simp[NH]
structure Ll (h:List aG) (s:dj) (cB:List aG):Prop where
 len:cB.length=h.length
 other: ∀o,o∉s.wr->aF cB o=mW (o∈s.fz) (aF h o)
theorem F2 {α:Type} (x:HM α): ∀(h G:List aG) (n:Nat) (a:α) (cB:List aG) (aJ:Nat) (s:dj),(x.run h n .none).val=some (a,cB,aJ,s)->r1 h.length s->G.length=h.length->
  (∀o∈s.rd,(aF h o).mask=(aF G o).mask)->(∀o∈s.wr,aF h o=aF G o)->
  ∃il,(x.run G n .none).val=some (a,il,aJ,s)/\Ll h s cB/\Ll G s il/\ ∀o∈s.wr,aF il o=aF cB o:=by
 induction x with
 |ret a=>
  intro h G n b cB aJ s e lt ad ar hw;simp only[HM.run,DT.val,bJ,c0]at e;obtain ⟨rfl,rfl,rfl,rfl⟩:=e;exact ⟨G,rfl,⟨rfl,λo _=>by simp[mW,dj.none]⟩,⟨rfl,λo _=>by simp[mW,dj.none]⟩,λo W=>by simp[dj.none]at W⟩
 |fail=>intro h G n b cB aJ s e;simp[HM.run,DT.val]at e
 |br b x y jr js=>
  intro h G n a cB aJ s e lt ad ar hw;cases b
  ·exact js h G n a cB aJ s e lt ad ar hw
  ·exact jr h G n a cB aJ s e lt ad ar hw
 |opt o k aR=>
  intro h G n a cB aJ s e lt ad ar hw;cases o with
  |none=>simp[HM.run,DT.val]at e
  |some r=>exact aR r h G n a cB aJ s e lt ad ar hw
 |alt o k l ph vE=>
  intro h G n a cB aJ s e lt ad ar hw;cases o with
  |none=>simp[HM.run,DT.val]at e
  |some r=>cases r with
   |inl r=>exact ph r h G n a cB aJ s e lt ad ar hw
   |inr r=>exact vE r h G n a cB aJ s e lt ad ar hw
 |rdc o k aR=>
  intro h G n a cB aJ s e lt ad ar hw;simp only[HM.run]at e;obtain ⟨bw,M,rfl⟩:=AL e;have W:(aF h o).mask=(aF G o).mask:=ar o (by simp[eZ]);obtain ⟨il,ag,aS,bP,dz⟩:=aR _ h G n a cB aJ bw M lt.tail ad (λi E=>ar i (by simp[eZ,E])) (λi E=>hw i (by simp[eZ,E]));refine ⟨il,?_,⟨aS.len,λi E=> ?_⟩,⟨bP.len,λi E=> ?_⟩,λi E=>dz i (by simpa [eZ,dj.none] using E)⟩
  ·simp only[HM.run];rw[<-W];exact A3 ag
  ·have:=aS.other i (by simpa [eZ,dj.none] using E);simpa [eZ,dj.none] using this
  ·have:=bP.other i (by simpa [eZ,dj.none] using E);simpa [eZ,dj.none] using this
 |frz o k aR=>
  intro h G n a cB aJ s e lt ad ar hw;simp only[HM.run]at e;obtain ⟨bw,M,rfl⟩:=AL e;have CN:o<h.length:=lt.fz o (by simp[eZ]);have dy:=ij h o (aF h o).freeze CN;have de:=ij G o (aF G o).freeze u;have g1:=λi=>gL h o (aF h o).freeze i u
  have g2:=λi=>gL G o (aF G o).freeze i u
  obtain ⟨il,ag,aS,bP,dz⟩:=aR _ (b8 G o (aF G o).freeze) n a cB aJ bw M (by rw[dy];exact lt.tail) u (λi E=>by
    have:=ar i (by simp[eZ,E]);rw[g1,g2];split
    ·rename_i h;subst h;rw[NH,NH];exact this
    ·exact this) (λi E=>by
    have:=hw i (by simp[eZ,E]);rw[g1,g2];split
    ·rename_i h;subst h;rw[this]
    ·exact this)
  have fin: ∀{x qs:List aG},(∀i,aF (b8 x o (aF x o).freeze) i=if i=o then (aF x o).freeze else aF x i)->(∀i,i∉bw.wr->aF qs i=mW (i∈bw.fz) (aF (b8 x o (aF x o).freeze) i))->
    ∀i,i∉(eZ ⟨dj.none.rd,o::dj.none.fz,dj.none.wr⟩ bw).wr->aF qs i=mW (i∈(eZ ⟨dj.none.rd,o::dj.none.fz,dj.none.wr⟩ bw).fz) (aF x i):=by
   intro x qs g r i E;rw[r i (by simpa [eZ,dj.none] using E),g];by_cases jn:i=o
   ·subst jn;simp only[if_true,eZ,dj.none,mW];simp[apn]
   ·simp[eZ,dj.none,mW,jn]
  refine ⟨il,?_,⟨aS.len.trans dy,fin g1 aS.other⟩,⟨bP.len.trans de,fin g2 bP.other⟩,λi E=>dz i (by simpa [eZ,dj.none] using E)⟩;simp only[HM.run];exact A3 ag
 |rdw o k aR=>
  intro h G n a cB aJ s e lt ad ar hw;simp only[HM.run]at e;obtain ⟨bw,M,rfl⟩:=AL e;have W:aF h o=aF G o:=hw o (by simp[eZ]);obtain ⟨il,ag,aS,bP,dz⟩:=aR _ h G n a cB aJ bw M lt.tail ad (λi E=>ar i (by simp[eZ,E])) (λi E=>hw i (by simp[eZ,E]));refine ⟨il,?_,⟨aS.len,λi E=> ?_⟩,⟨bP.len,λi E=> ?_⟩,λi E=> ?_⟩
  ·simp only[HM.run];rw[<-W];exact A3 ag
  ·simp only[eZ,dj.none,dp,e7,List.not_mem_nil,or_false,not_or]at E;have:=aS.other i E.1;simpa [eZ,dj.none] using this
  ·simp only[eZ,dj.none,dp,e7,List.not_mem_nil,or_false,not_or]at E;have:=bP.other i E.1;simpa [eZ,dj.none] using this
  ·by_cases gY:i∈bw.wr
   ·exact dz i gY
   ·rw[bP.other i gY,aS.other i gY,hw i E]
 |wr o b k aR=>
  intro h G n a cB aJ s e lt ad ar hw;simp only[HM.run]at e;obtain ⟨bw,M,rfl⟩:=AL e;have CN:o<h.length:=lt.wr o (by simp[eZ]);have dy:=ij h o b CN;have de:=ij G o b u;have g1:=λi=>gL h o b i u
  have g2:=λi=>gL G o b i u
  obtain ⟨il,ag,aS,bP,dz⟩:=aR _ (b8 G o b) n a cB aJ bw M (by rw[dy];exact lt.tail) u (λi E=>by
    have:=ar i (by simp[eZ,E]);rw[g1,g2];split
    ·rfl
    ·exact this) (λi E=>by
    have:=hw i (by simp[eZ,E]);rw[g1,g2];split
    ·rfl
    ·exact this)
  refine ⟨il,?_,⟨aS.len.trans dy,λi E=> ?_⟩,⟨bP.len.trans de,λi E=> ?_⟩,λi E=> ?_⟩
  ·simp only[HM.run];exact A3 ag
  ·simp only[eZ,dj.none,dp,e7,List.not_mem_nil,or_false,not_or]at E;have:=aS.other i E.1;rw[g1,if_neg E.2]at this;simpa [eZ,dj.none] using this
  ·simp only[eZ,dj.none,dp,e7,List.not_mem_nil,or_false,not_or]at E;have:=bP.other i E.1;rw[g2,if_neg E.2]at this;simpa [eZ,dj.none] using this
  ·by_cases gY:i∈bw.wr
   ·exact dz i gY
   ·rw[bP.other i gY,aS.other i gY,g1,g2];split
    ·rfl
    ·rw[hw i E]
 |nw b k aR=>
  intro h G n a cB aJ s e lt ad ar hw;simp only[HM.run]at e;obtain ⟨bw,M,rfl⟩:=AL e;have CN:n<h.length:=lt.wr n (by simp[eZ]);have dy:=ij h n b CN;have de:=ij G n b u;have g1:=λi=>gL h n b i u
  have g2:=λi=>gL G n b i u
  obtain ⟨il,ag,aS,bP,dz⟩:=aR n _ (b8 G n b) (n+1) a cB aJ bw M (by rw[dy];exact lt.tail) u (λi E=>by
    have:=ar i (by simp[eZ,E]);rw[g1,g2];split
    ·rfl
    ·exact this) (λi E=>by
    have:=hw i (by simp[eZ,E]);rw[g1,g2];split
    ·rfl
    ·exact this)
  refine ⟨il,?_,⟨aS.len.trans dy,λi E=> ?_⟩,⟨bP.len.trans de,λi E=> ?_⟩,λi E=> ?_⟩
  ·simp only[HM.run];exact A3 ag
  ·simp only[eZ,dj.none,dp,e7,List.not_mem_nil,or_false,not_or]at E;have:=aS.other i E.1;rw[g1,if_neg E.2]at this;simpa [eZ,dj.none] using this
  ·simp only[eZ,dj.none,dp,e7,List.not_mem_nil,or_false,not_or]at E;have:=bP.other i E.1;rw[g2,if_neg E.2]at this;simpa [eZ,dj.none] using this
  ·by_cases gY:i∈bw.wr
   ·exact dz i gY
   ·rw[bP.other i gY,aS.other i gY,g1,g2];split
    ·rfl
    ·rw[hw i E]
 |nxt k aR=>
  intro h G n a cB aJ s e lt ad ar hw;exact aR n h G n a cB aJ s e lt ad ar hw
open Go.RowKit
section
variable {P:cv} {cx:cj} {Γ:hM} {ops:Array Oper}
theorem aaN [Env] {o:Oper} {db pU:Operand->K} (h: ∀x∈o.op.operands.toList,db x=pU x):nu cx Γ o db=nu cx Γ o pU:=by
 obtain ⟨dst,op,ty,pos,after,guard⟩:=o;have mp: ∀ps:List (Nat×Operand),(∀x∈ps.map (·.2),db x=pU x)->(ps.map λp=>(p.1,db p.2))=ps.map λp=>(p.1,pU p.2):=λps aT=>
  List.map_congr_left λp hm=>by rw[aT p.2 (List.mem_map.2 ⟨p,hm,rfl⟩)]
 have ml: ∀ps:List Operand,(∀x∈ps,db x=pU x)->ps.map db=ps.map pU:=λps aT=>List.map_congr_left aT
 have Sz: ∀ps:Option Operand,(∀x∈ps.toArray,db x=pU x)->ps.map db=ps.map pU:=λps aT=>by
  cases ps with
  |none=>rfl
  |some x=>simp[aT x aU]
 cases op<;>simp only[Op.operands]at h<;>simp only[nu]
 case move x=>rw[h x aU]
 case assign x=>rw[h x aU]
 case pick c a b=>rw[h c aU,h a aU,h b aU]
 case box T x=>rw[h x aU]
 case build T ps=>rw[mp ps.toList (λx al=>h x (by simpa using al))]
 case buildSlice T m ps=>rw[mp ps.toList (λx al=>h x (by simpa using al))]
 case load T x=>rw[h x aU]
 case store T x y=>rw[h x aU,h y aU]
 case nilCheck x=>rw[h x aU]
 case binOp b T x y z=>rw[h x aU,h y aU]
 case unOp b T x=>rw[h x aU]
 case convert S T x=>rw[h x aU]
 case makeInterface T x=>rw[h x aU]
 case makeFunc f l m=>
  cases f
  case func f=>simp only;rw[ml l.toList (λx al=>h x (by simp;exact .inl (by simpa using al))),ml m.toList (λx al=>h x (by simp;exact .inr (by simpa using al)))]
  all_goals rfl
 case makeSlice T x y=>rw[h x aU,h y aU]
 case slice T x l m k=>
  rw[h x aU,Sz l (λy bt=>h y (by simp at bt ⊢;simp[bt])),Sz m (λy bt=>h y (by simp at bt ⊢;simp[bt])),Sz k (λy bt=>h y (by simp at bt ⊢;simp[bt]))]
 case fieldAddr T x f=>rw[h x aU]
 case field T x f=>rw[h x aU]
 case indexAddr T x y=>rw[h x aU,h y aU]
 case index T x y=>rw[h x aU,h y aU]
 case extract x j=>rw[h x aU]
 case range T x=>rw[h x aU]
 case next x b=>rw[h x aU]
 case call c=>
  have q:c.args.toList.map db=c.args.toList.map pU:=ml _ λx al=>h x (by simp[Call.operands];exact .inr (by simpa using al))
  rw[q];cases aw:c.callee with
  |builtin b=>rfl
  |value f=>simp only;rw[h f (by simp[Call.operands,aw])]
  |invoke r m=>simp only;rw[h r (by simp[Call.operands,aw])]
def uP (ops:Array Oper) (R:bR) (o:Oper):Option Bool:=match o.guard with
 |none=>some true
 |some (j,want)=>match (ops[j]?).bind (·.dst) with
  |some I=>match (R.get I).bind mB with
   |some b=>some (Ag b want)
   |none=>match R.get I with
    |some (.tup [])=>some false
    |_=>none
  |none=>none
def qL [Env] (cx:cj) (Γ:hM) (o:Oper) (R:bR) (b:Bool):HM K:=bif b then nu cx Γ o (h1 R) else .ret (.tup [])
theorem Ox [Env] {o:Oper} {R eQ:bR} (h: ∀I∈rU ops o,R.get I=eQ.get I):uP ops R o=uP ops eQ o/\ ∀b,qL cx Γ o R b=qL cx Γ o eQ b:=by
 constructor
 ·unfold uP;cases bC:o.guard with
  |none=>rfl
  |some C8=>
   obtain ⟨j,want⟩:=C8;simp only;cases ak:(ops[j]?).bind (·.dst) with
   |none=>rfl
   |some I=>
    simp only;rw[h I (by simp[rU,Oper.looksAt,bC,ak])]
 ·intro b;unfold qL;rw[aaN (db:=h1 R) (pU:=h1 eQ)];intro x al;cases x with
  |tmp t=>simp only[h1];rw[h t (by simp only[rU,Oper.looksAt,dp,List.mem_filterMap];exact .inl ⟨.tmp t,al,rfl⟩)]
  |const v=>rfl
  |global g=>rfl
  |func f=>rfl
theorem wx (R:bR) (I:Option Tmp) (r:K) (e:Nat):(lY R I r).get e=if I=some e then some r else R.get e:=by
 cases I with
 |none=>simp[lY]
 |some I=>
  simp only[lY,bR.get_put,bJ];by_cases h:e=I
  ·subst h;simp
  ·rw[if_neg h,if_neg (λcB=>h cB.symm)]
theorem FA [Env] {o:Oper} {st cd:bU} {nx n:Nat} {p:dj}:(uK cx Γ o st nx).val=some (cd,n,p)↔ ∃r,((nu cx Γ o (h1 st.regs)).run st.heap nx .none).val=some (r,cd.heap,n,p)/\cd.regs=lY st.regs o.dst r:=by
 unfold uK;constructor
 ·intro e;obtain ⟨⟨r,h,m,s⟩,M,V⟩:=DT.val_bind_some e;simp only[DT.val,bJ,c0]at V;obtain ⟨rfl,rfl,rfl⟩:=V;exact ⟨r,M,rfl⟩
 ·rintro ⟨r,M,V⟩;rw[DT.val_bind,M];obtain ⟨jB,H1⟩:=cd;simp only at V;subst V;rfl
theorem abD [Env] {o:Oper} {R eQ:bR} (h: ∀e,R.get e=eQ.get e):nu cx Γ o (h1 R)=nu cx Γ o (h1 eQ):=by
 refine aaN λx _=> ?_
 cases x with
 |tmp t=>simp only[h1];rw[h t]
 |const v=>rfl
 |global g=>rfl
 |func f=>rfl
theorem Gc {R eQ:bR} (h: ∀e,R.get e=eQ.get e) (I:Option Tmp) (r:K) (e:Nat):(lY R I r).get e=(lY eQ I r).get e:=by rw[wx,wx,h]
theorem AB [Env] {o:Oper} {st cd:bU} {nx n:Nat} {p:dj} (e:(qo cx Γ ops o st nx).val=some (cd,n,p)):
  ∃b r,uP ops st.regs o=some b/\((qL cx Γ o st.regs b).run st.heap nx .none).val=some (r,cd.heap,n,p)/\ ∀e,cd.regs.get e=(lY st.regs o.dst r).get e:=by
 unfold qo at e;unfold uP;cases bC:o.guard with
 |none=>
  simp only[bC]at e;obtain ⟨r,q,G⟩:=FA.1 e;exact ⟨true,r,rfl,q,λe=>by rw[G]⟩
 |some C8=>
  obtain ⟨j,want⟩:=C8;simp only[bC]at e ⊢;cases ak:(ops[j]?).bind (·.dst) with
  |none=>simp[ak,DT.val]at e
  |some I=>
   simp only[ak]at e ⊢;cases L:(st.regs.get I).bind mB with
   |none=>
    simp only[L]at e ⊢;split at e
    ·rename_i bO;simp only[DT.val,bJ,c0]at e;obtain ⟨rfl,rfl,rfl⟩:=e;exact ⟨false,.tup [],by simp only[bO],rfl,λ_=>rfl⟩
    ·simp[DT.val]at e
   |some b=>
    have bO:=Ap L;simp only[L,DT.val]at e ⊢;cases E:Ag b want
    ·have o7:b= !want:=by cases b<;>cases want<;>first |rfl |cases E
     simp only[E,ay,bJ,c0]at e;obtain ⟨rfl,rfl,rfl⟩:=e;exact ⟨false,.tup [],rfl,rfl,Gc (tK (by rw[bO,o7])) _ _⟩
    ·have o7:b=want:=by cases b<;>cases want<;>first |rfl |cases E
     simp only[E,an]at e;obtain ⟨r,q,G⟩:=FA.1 e;have ar:=tK (R:=st.regs) (I:=I) (b:=want) (by rw[bO,o7]);refine ⟨true,r,rfl,?_,λe=> ?_⟩
     ·simp only[qL,an];rw[<-abD ar];exact q
     ·rw[G];exact Gc ar _ _ e
theorem Og [Env] {o:Oper} {st:bU} {h:List aG} {nx n:Nat} {p:dj} {b:Bool} {r:K} (aW:uP ops st.regs o=some b) (e:((qL cx Γ o st.regs b).run st.heap nx .none).val=some (r,h,n,p)):
  ∃jB,(qo cx Γ ops o st nx).val=some (⟨jB,h⟩,n,p)/\ ∀e,jB.get e=(lY st.regs o.dst r).get e:=by
 unfold uP at aW;unfold qo;cases bC:o.guard with
 |none=>
  simp only[bC,bJ]at aW;subst aW;exact ⟨lY st.regs o.dst r,FA.2 ⟨r,e,rfl⟩,λ_=>rfl⟩
 |some C8=>
  obtain ⟨j,want⟩:=C8;simp only[bC]at aW ⊢;cases ak:(ops[j]?).bind (·.dst) with
  |none=>simp[ak]at aW
  |some I=>
   simp only[ak]at aW ⊢;cases L:(st.regs.get I).bind mB with
   |none=>
    simp only[L]at aW ⊢;split at aW
    ·rename_i bO;simp only[bJ]at aW;subst aW;simp only[qL,ay,HM.run,DT.val,bJ,c0]at e;obtain ⟨rfl,rfl,rfl,rfl⟩:=e;refine ⟨lY st.regs o.dst (.tup []),?_,λ_=>rfl⟩;simp only[bO,DT.val]
    ·cases aW
   |some bX=>
    have bO:=Ap L;simp only[L,bJ]at aW;simp only[DT.val];rw[aW];cases b
    ·have o7:bX= !want:=by cases bX<;>cases want<;>first |rfl |cases aW
     simp only[qL,ay,HM.run,DT.val,bJ,c0]at e ⊢;obtain ⟨rfl,rfl,rfl,rfl⟩:=e;exact ⟨_,⟨rfl,rfl,rfl⟩,Gc (tK (by rw[bO,o7])) _ _⟩
    ·have o7:bX=want:=by cases bX<;>cases want<;>first |rfl |cases aW
     have ar:=tK (R:=st.regs) (I:=I) (b:=want) (by rw[bO,o7]);simp only[qL,an]at e ⊢;rw[<-abD ar]at e;exact ⟨lY (refine st.regs I want) o.dst r,FA.2 ⟨r,e,rfl⟩,Gc ar _ _⟩
def kX (a b:bU):Prop:=(∀I,a.regs.get I=b.regs.get I)/\a.heap=b.heap
theorem kX.refl (a:bU):kX a a:=⟨λ_=>rfl,rfl⟩
theorem kX.symm {a b:bU} (h:kX a b):kX b a:=⟨λI=>(h.1 I).symm,h.2.symm⟩
theorem kX.trans {a b c:bU} (h:kX a b) (k:kX b c):kX a c:=⟨λI=>(h.1 I).trans (k.1 I),h.2.trans k.2⟩
structure pG [Env] (cx:cj) (Γ:hM) (ops:Array Oper) (base ax:Nat) (a7:Nat->dj) (i:Nat) (st cd:bU):Prop where
 ex: ∃o n,ops[i]? =some o/\(qo cx Γ ops o st (base+slotsOf*i)).val=some (cd,n,a7 i)/\n<=base+slotsOf*i+slotsOf
 lt:r1 ax (a7 i)
 len:st.heap.length=ax
variable {base ax:Nat} {a7:Nat->dj}
theorem pG.left [Env] {i:Nat} {st cd:bU} (d:pG cx Γ ops base ax a7 i st cd):Ll st.heap (a7 i) cd.heap:=by obtain ⟨o,n,q,G,ab⟩:=d.ex;obtain ⟨b,r,aE,bf,bF⟩:=AB G;obtain ⟨il,-,l,-⟩:=F2 _ st.heap st.heap _ _ _ _ _ bf (by rw[d.len];exact d.lt) rfl (λ_ _=>rfl) (λ_ _=>rfl);exact l
theorem pG.congr [Env] {i:Nat} {st cd bb:bU} (d:pG cx Γ ops base ax a7 i st cd) (e:kX st bb): ∃tP,pG cx Γ ops base ax a7 i bb tP/\kX cd tP:=by obtain ⟨o,n,q,G,ab⟩:=d.ex;obtain ⟨b,r,aE,bf,bF⟩:=AB G;obtain ⟨bh,ba⟩:=Ox (cx:=cx) (Γ:=Γ) (ops:=ops) (o:=o) (R:=st.regs) (eQ:=bb.regs) (λI _=>e.1 I);obtain ⟨jB,g1,g2⟩:=Og (cx:=cx) (Γ:=Γ) (ops:=ops) (o:=o) (st:=bb) (nx:=base+slotsOf*i) (b:=b) (by rw[<-bh];exact aE) (by rw[<-ba,<-e.2];exact bf);refine ⟨⟨jB,cd.heap⟩,⟨⟨o,n,q,g1,ab⟩,d.lt,by rw[<-e.2];exact d.len⟩,⟨λI=> ?_,rfl⟩⟩;rw[bF,g2,wx,wx,e.1 I]
structure G8 (ops:Array Oper) (a7:Nat->dj) (a b:Nat):Prop where
 regs: ∀tA dg,ops[a]? =some tA->ops[b]? =some dg->(∀I,tA.dst=some I->I∉rU ops dg/\dg.dst≠some I)/\ ∀I,dg.dst=some I->I∉rU ops tA
 ww: ∀o∈(a7 a).wr,o∉(a7 b).wr
 wr: ∀o∈(a7 a).wr,o∉(a7 b).rd
 wf: ∀o∈(a7 a).wr,o∉(a7 b).fz
 rw_: ∀o∈(a7 b).wr,o∉(a7 a).rd
 fw: ∀o∈(a7 b).wr,o∉(a7 a).fz
theorem swap [Env] {a b:Nat} {st cd dL:bU} (tN:pG cx Γ ops base ax a7 a st cd) (DH:pG cx Γ ops base ax a7 b cd dL) (ap:G8 ops a7 a b):
  ∃tP SY,pG cx Γ ops base ax a7 b st tP/\pG cx Γ ops base ax a7 a tP SY/\kX dL SY:=by
 have jG:=tN.left;obtain ⟨tA,awB,dF,a2,a3⟩:=tN.ex;obtain ⟨atu,ahm,a4,a5,om⟩:=AB a2;obtain ⟨dg,awC,b1,b2,b3⟩:=DH.ex;obtain ⟨fq,ahn,hG,hN,j1⟩:=AB b2;obtain ⟨ag,aS⟩:=ap.regs tA dg dF b1;have xU:=Ox (cx:=cx) (Γ:=Γ) (ops:=ops) (o:=dg) (R:=cd.regs) (eQ:=st.regs) (λI ao=>by rw[om,wx,if_neg];intro h;exact (ag I h).1 ao)
 obtain ⟨dr,fI,gh,nW,IX⟩:=F2 _ cd.heap st.heap _ _ _ _ _ hN (by rw[DH.len];exact DH.lt) (by rw[tN.len,DH.len]) (λo W=>by
  rw[jG.other o (λh=>ap.wr o h W),arm]) (λo W=>by
  rw[jG.other o (λh=>ap.ww o h W)];unfold mW;rw[if_neg (ap.fw o W)])
 obtain ⟨il,bw,bS,dD,du⟩:=F2 _ st.heap dr _ _ _ _ _ a5 (by rw[tN.len];exact tN.lt) nW.len (λo W=>by
  rw[nW.other o (λh=>ap.rw_ o h W),arm]) (λo W=>by
  rw[nW.other o (λh=>ap.ww o W h)];unfold mW;rw[if_neg (ap.wf o W)])
 obtain ⟨jB,g1,g2⟩:=Og (cx:=cx) (Γ:=Γ) (ops:=ops) (o:=dg) (st:=st) (nx:=base+slotsOf*b) (b:=fq) (by rw[<-xU.1];exact hG) (by rw[<-xU.2];exact fI);have Hg:=Ox (cx:=cx) (Γ:=Γ) (ops:=ops) (o:=tA) (R:=st.regs) (eQ:=jB) (λI ao=>by rw[g2,wx,if_neg];intro h;exact aS I h ao)
 obtain ⟨wU,g3,g4⟩:=Og (cx:=cx) (Γ:=Γ) (ops:=ops) (o:=tA) (st:=⟨jB,dr⟩) (nx:=base+slotsOf*a) (b:=atu) (by rw[<-Hg.1];exact a4) (by rw[<-Hg.2];exact bw);refine ⟨⟨jB,dr⟩,⟨wU,il⟩,⟨⟨dg,awC,b1,g1,b3⟩,DH.lt,tN.len⟩,⟨⟨tA,awB,dF,g3,a3⟩,tN.lt,by rw[<-tN.len];exact nW.len⟩,⟨λI=> ?_,?_⟩⟩
 ·rw[j1,g4];simp only[wx,om,g2];by_cases q:dg.dst=some I
  ·rw[if_pos q,if_neg (λh=>(ag I h).2 q),if_pos q]
  ·rw[if_neg q,if_neg q]
 ·have hlen:dL.heap.length=il.length:=by rw[dD.len,nW.len,<-jG.len,<-gh.len]
  refine List.ext_getElem? λo=> ?_
  have key:aF dL.heap o=aF il o:=by
   by_cases yt:o∈(a7 a).wr
   ·rw[du o yt,gh.other o (ap.ww o yt)];unfold mW;rw[if_neg (ap.wf o yt)]
   ·by_cases IE:o∈(a7 b).wr
    ·rw[dD.other o yt];unfold mW;rw[if_neg (ap.fw o IE),IX o IE]
    ·rw[dD.other o yt,nW.other o IE,gh.other o IE,jG.other o yt];unfold mW;split<;>split<;>rfl
  rcases Nat.lt_or_ge o dL.heap.length with h |h
  ·have cB:o<il.length:=u;simp only[aF,jN,hr h,hr cB,Option.getD_some]at key;rw[hr h,hr cB,key]
  ·rw[List.getElem?_eq_none h,List.getElem?_eq_none (show il.length<=o by omega)]
def oi [Env] (cx:cj) (Γ:hM) (ops:Array Oper) (base ax:Nat) (a7:Nat->dj):List Nat->bU->bU->Prop
 |[],st,bb=>kX st bb
 |i::l,st,bb=> ∃cd,pG cx Γ ops base ax a7 i st cd/\oi cx Γ ops base ax a7 l cd bb
theorem oi.congr [Env]: ∀{l:List Nat} {st bb dL:bU},oi cx Γ ops base ax a7 l st bb->kX st dL->oi cx Γ ops base ax a7 l dL bb
 |[],st,bb,dL,h,e=>e.symm.trans h
 |i::l,st,bb,dL,⟨cd,q,G⟩,e=>by obtain ⟨tP,ab,aE⟩:=q.congr e;exact ⟨tP,ab,G.congr aE⟩
theorem oi.front [Env]: ∀{dy de:List Nat} {i:Nat} {st bb:bU},oi cx Γ ops base ax a7 (dy++i::de) st bb->(∀j∈dy,G8 ops a7 j i)->oi cx Γ ops base ax a7 (i::(dy++de)) st bb
 |[],de,i,st,bb,h,_=>h
 |j::dy,de,i,st,bb,⟨cd,q,G⟩,aV=>by
  obtain ⟨dL,ab,aE⟩:=oi.front G λk af=>aV k (by simp[af])
  obtain ⟨axI,axJ,bf,bF,dU⟩:=swap q ab (aV j aU);exact ⟨axI,bf,axJ,bF,aE.congr dU⟩
end
open Go.RowKit
theorem tU {l m:List Nat} (h:o3 l m=true): ∀a∈l,a∉m:=by
 induction l with
 |nil=>simp
 |cons b l aR=>
  simp only[o3,bQ,eT]at h;intro a aV hm;rcases e7.1 aV with rfl |aV
  ·rw[A4.2 hm]at h;cases h.1
  ·exact aR h.2 a aV hm
theorem aaf {sB:List Nat} {i:Nat} {n:nn}: ∀(l:List nn) (j:Nat),uJ.go sB i n j l=true-> ∀k m,l[k]? =some m->(sB.getD (j+k) 0).testBit i=true\/n.apart m=true
 |[],j,h,k,m,hm=>by simp at hm
 |x::l,j,h,k,m,hm=>by
  simp only[uJ.go,bQ,Bool.or_eq_true]at h;cases k with
  |zero=>
   obtain rfl:x=m:=by simpa using hm
   exact h.1
  |succ k=>
   have:=aaf l (j+1) h.2 k m (by simpa using hm)
   rwa [show j+1+k=j+(k+1) by omega]at this
theorem abE {sB:List Nat}: ∀(l:List nn) (i:Nat),uJ sB i l=true-> ∀a b n m,a<b->l[a]? =some n->l[b]? =some m->(sB.getD (i+b) 0).testBit (i+a)=true\/n.apart m=true
 |[],i,h,a,b,n,m,_,aO,_=>by simp at aO
 |x::l,i,h,a,b,n,m,gz,aO,hm=>by
  simp only[uJ,bQ]at h;cases b with
  |zero=>omega
  |succ b=>
   cases a with
   |zero=>
    obtain rfl:x=n:=by simpa using aO
    have:=aaf l (i+1) h.1 b m (by simpa using hm)
    rwa [show i+1+b=i+(b+1) by omega]at this
   |succ a=>
    have:=abE l (i+1) h.2 a b n m u (by simpa using aO) (by simpa using hm)
    rwa [show i+1+b=i+(b+1) by omega,show i+1+a=i+(a+1) by omega]at this
theorem abl: ∀(l:List Oper) (i:Nat),xc i l=true-> ∀k o,l[k]? =some o-> ∀e∈o.after.toList,Region.binds .any e=true->e.on<i+k
 |[],i,h,k,o,W,e,he,L=>by simp at W
 |x::l,i,h,k,o,W,e,he,L=>by
  simp only[xc,bQ,fC]at h;cases k with
  |zero=>
   obtain rfl:x=o:=by simpa using W
   have:=h.1 e he;simpa [L] using this
  |succ k=>
   have:=abl l (i+1) h.2 k o (by simpa using W) e he L;omega
theorem ac0 (f:Edge->Bool) (g:Edge->Nat) (j:Nat): ∀(l:List Edge) (m:Nat),(l.foldl (λm e=>if f e then m ||| g e else m) m).testBit j=true->m.testBit j=true\/ ∃e∈l,f e=true/\(g e).testBit j=true
 |[],m,h=>.inl h
 |e::l,m,h=>by
  simp only[List.foldl_cons]at h;rcases ac0 f g j l _ h with q |⟨ei,q,G⟩
  ·cases aM:f e
   ·simp only[aM,Bool.false_eq_true,if_false]at q;exact .inl q
   ·simp only[aM,if_true,Nat.testBit_or,Bool.or_eq_true]at q;rcases q with q |q
    ·exact .inl q
    ·exact .inr ⟨e,aU,aM,q⟩
  ·exact .inr ⟨ei,by simp[q],G⟩
theorem abc: ∀(l:List Oper) (acc:List Nat),(∀k,k<acc.length->(kz.go l acc)[k]? =acc[k]?)/\
  ∀k o,l[k]? =some o-> ∀j,((kz.go l acc).getD (acc.length+k) 0).testBit j=true-> ∃e∈o.after.toList,Region.binds .any e=true/\(j=e.on\/(e.on<acc.length+k/\((kz.go l acc).getD e.on 0).testBit j=true))
 |[],acc=>⟨λk af=>by simp only[kz.go],λk o W=>by simp at W⟩
 |o::l,acc=>by
  let x:=o.after.toList.foldl (λm e=>bif Region.binds .any e then m ||| (1 <<< e.on) ||| acc.getD e.on 0 else m) 0
  obtain ⟨afz,awi⟩:=abc l (acc++[x]);have auV:kz.go (o::l) acc=kz.go l (acc++[x]):=by simp only[kz.go,x]
  rw[auV];have keep: ∀k,k<acc.length->(kz.go l (acc++[x]))[k]? =acc[k]? :=λk af=>by rw[afz k (by simp;omega),List.getElem?_append_left af]
  refine ⟨keep,λk dV W j ak=> ?_⟩;cases k with
  |zero=>
   obtain rfl:o=dV:=by simpa using W
   have al:(kz.go l (acc++[x])).getD (acc.length+0) 0=x:=by rw[jN,afz (acc.length+0) aU];simp
   rw[al]at ak;have iD:(o.after.toList.foldl (λm e=>if Region.binds .any e then m ||| ((1 <<< e.on) ||| acc.getD e.on 0) else m) 0).testBit j=true:=by
    have:(λ(m:Nat) (e:Edge)=>bif Region.binds .any e then m ||| (1 <<< e.on) ||| acc.getD e.on 0 else m)=λm e=>if Region.binds .any e then m ||| ((1 <<< e.on) ||| acc.getD e.on 0) else m:=by
     funext m e
     cases Region.binds .any e
     ·rfl
     ·simp[Nat.or_assoc]
    rw[<-this];exact ak
   rcases ac0 (Region.binds .any) (λe=>(1 <<< e.on) ||| acc.getD e.on 0) j o.after.toList 0 iD with h |⟨e,he,L,aey⟩
   ·simp at h
   ·refine ⟨e,he,L,?_⟩;simp only[Nat.testBit_or,Bool.or_eq_true]at aey;rcases aey with h |h
    ·left;simpa [Nat.one_shiftLeft,Nat.testBit_two_pow] using Eq.symm (by simpa [Nat.one_shiftLeft,Nat.testBit_two_pow] using h:e.on=j)
    ·right;have bu:e.on<acc.length:=by
      rcases Nat.lt_or_ge e.on acc.length with q |q
      ·exact q
      ·simp[jN,List.getElem?_eq_none q]at h
     refine ⟨u,?_⟩;rw[jN,keep e.on bu,<-jN];exact h
  |succ k=>
   have af:(acc++[x]).length+k=acc.length+(k+1):=by simp;omega
   have:=awi k dV (by simpa using W) j (by rw[af];exact ak)
   rwa [af]at this
theorem aqj {l:List Oper} {k:Nat} {o:Oper} (W:l[k]? =some o) {j:Nat} (h:((kz l).getD k 0).testBit j=true): ∃e∈o.after.toList,Region.binds .any e=true/\(j=e.on\/(e.on<k/\((kz l).getD e.on 0).testBit j=true)):=by have:=(abc l []).2 k o W j (by simpa [kz] using h);simpa [kz] using this
section
variable {P:cv} {cx:cj} {Γ:hM} {ops:Array Oper} {base ax:Nat}
def qH (Q:List nn) (i:Nat):dj:=((Q[i]?).map (·.fp)).getD .none
theorem aay [Env]: ∀(l:List Oper) (i:Nat) (st bb:bU) (Q qi:List nn),(Be cx Γ ops base ax i l st Q).val=some (bb,qi)->Q.length=i->(∀k,l[k]? =ops[i+k]?)->st.heap.length=ax->
  qi.length=i+l.length/\(∀k,k<i->qi[k]? =Q[k]?)/\(∀k o n,l[k]? =some o->qi[i+k]? =some n->n.dst=o.dst.toList/\n.uses=rU ops o)/\
   oi cx Γ ops base ax (qH qi) (List.range' i l.length) st bb
 |[],i,st,bb,Q,qi,e,aO,ad,nD=>by simp only[Be,DT.val,bJ,c0]at e;obtain ⟨rfl,rfl⟩:=e;exact ⟨by simp[aO],λ_ _=>rfl,λk o n h=>by simp at h,kX.refl _⟩
 |o::l,i,st,bb,Q,qi,e,aO,ad,nD=>by
  simp only[Be]at e;obtain ⟨⟨cd,n,fp⟩,M,V⟩:=DT.val_bind_some e;simp only at V;cases L:Nat.ble n (base+slotsOf*i+slotsOf)&&Fi ax fp
  ·simp[L,DT.val]at V
  ·simp only[L,an]at V;simp only[bQ]at L;have bu:=r1.of L.2;have W:ops[i]? =some o:=by simpa using (ad 0).symm
   have hlen:cd.heap.length=ax:=by obtain ⟨b,r,aE,bf,bF⟩:=AB M;obtain ⟨il,-,awq,-⟩:=F2 _ st.heap st.heap _ _ _ _ _ bf (by rw[nD];exact bu) rfl (λ_ _=>rfl) (λ_ _=>rfl);rw[awq.len,nD]
   obtain ⟨bw,bS,dD,du⟩:=aay l (i+1) cd bb _ qi V (by simp[aO]) (λk=>by have:=ad (k+1);simpa [Nat.add_assoc,Nat.add_comm 1 k] using this) hlen
   have E:qi[i]? =some ⟨o.dst.toList,rU ops o,fp⟩:=by rw[bS i u,List.getElem?_append_right u];simp[aO]
   have aeL:qH qi i=fp:=by simp[qH,E]
   refine ⟨by rw[bw];simp;omega,λk af=>by rw[bS k u,List.getElem?_append_left u],λk dV aJ af j7=> ?_,⟨cd,⟨⟨o,n,W,by rw[aeL];exact M,by simpa using L.1⟩,by rw[aeL];exact bu,nD⟩,du⟩⟩;cases k with
   |zero=>
    obtain rfl:o=dV:=by simpa using af
    rw[Nat.add_zero,E]at j7;obtain rfl:=eW j7;exact ⟨rfl,rfl⟩
   |succ k=>
    exact dD k dV aJ (by simpa using af) (by rw[show i+1+k=i+(k+1) by omega];exact j7)
variable {nt:jy} {a7:Nat->dj}
theorem ds.congr [Env] {φ:bL} {ι:Nat->az} {w:bk} {st bb:bU} {a:Act} (d:ds φ ι w nt st a) (e:kX st bb):ds φ ι w nt bb a:=
 ⟨by rw[<-e.2];exact d.heap,λI r h=>by rw[<-e.2];exact d.regs I r (by rw[e.1 I];exact h),d.nt,d.small,by rw[<-e.2];exact d.defers⟩
theorem arP [Env] (tab:cN P cx) (c7:cc P Γ) {bA:Exit->Act->bk->Prop} {tQ:bU} (Rd:ops.toList.all (pO nt.n)=true) (auM:xc 0 ops.toList=true)
  (pY: ∀a b,a<b->b<ops.size->((kz ops.toList).getD b 0).testBit a=true\/G8 ops a7 a b) (nD:base+slotsOf*ops.size<=ax)
  {TW:bL} {zO:Nat->az} {hZ:bk} {wI:List aG}
  (k: ∀bs aq av aH,ds av aH aq nt tQ bs->Step TW zO hZ wI av aH aq tQ.heap->eo zO wI aH tQ.heap->bA .normal bs aq):
  ∀(fuel:Nat) (listed:Array Bool) (rest:List Nat) (st:bU) (φ:bL) (ι:Nat->az) (w:bk) (a:Act),rest.length<=fuel->rest.Pairwise (· < ·)->listed.size=ops.size->(∀i,i∈rest↔(i<ops.size/\listed.getD i true=false))->
   (∀i,i<ops.size->i∉rest-> ∀j,((kz ops.toList).getD i 0).testBit j=true->j∉rest)->(∀i∈rest,∀k,base+slotsOf*i<=k->k<base+slotsOf*i+slotsOf->(aF st.heap k).live=false)->st.heap.length=ax->
   oi cx Γ ops base ax a7 rest st tQ->ds φ ι w nt st a->Step TW zO hZ wI φ ι w st.heap->eo zO wI ι st.heap->wpAnyIn (e9 nt.ro) 0 P .any ops bA fuel listed a w:=by
 intro fuel;have norm: ∀{listed:Array Bool} {rest:List Nat} {st:bU} {φ:bL} {ι:Nat->az} {w:bk} {a:Act},rest.Pairwise (· < ·)->(∀i,i∈rest↔(i<ops.size/\listed.getD i true=false))->listed.size=ops.size->oi cx Γ ops base ax a7 rest st tQ->ds φ ι w nt st a->Step TW zO hZ wI φ ι w st.heap->eo zO wI ι st.heap->
   Region.ready .any ops listed=[]->bA .normal a w:=by
  intro listed rest st φ ι w a ah dS ea zk cn sp bZ ar;cases rest with
  |nil=>
   have e:kX st tQ:=zk;refine k a w φ ι (cn.congr e) ?_ ?_
   ·rw[<-e.2];exact sp
   ·rw[<-e.2];exact bZ
  |cons i rest=>
   exfalso;have E:=(dS i).1 aU;have:i∈Region.ready .any ops listed:=by
    unfold Region.ready;rw[e8];refine ⟨by simp[E.1],?_⟩;rw[E.2];have It:ops[i]? =some ops[i]:=Array.getElem?_eq_getElem E.1;simp only[It,Option.map_some,Option.getD_some,cU,Bool.true_and];rw[Array.all_eq_true'];intro e he;cases L:Region.binds .any e
    ·rfl
    ·simp only[cL,Bool.false_or];have bu:=abl ops.toList 0 auM i ops[i] aU e (by simpa using he) L;have mq:e.on∉i::rest:=by
      intro hm;rcases e7.1 hm with h |h
      ·omega
      ·have:=(List.pairwise_cons.1 ah).1 e.on h;omega
     have p4:e.on<ops.size:=u;have G: ¬(listed.getD e.on true=false):=λh=>mq ((dS e.on).2 ⟨p4,h⟩)
     have ab:e.on<listed.size:=u;simp only[jc,Array.getElem?_eq_getElem ab,Option.getD_some]at G ⊢;simpa using G
   rw[ar]at this;cases this
 induction fuel with
 |zero=>
  intro listed rest st φ ι w a hle ah ea dS jl h4 hlen zk cn sp bZ;have:rest=[]:=by
   cases rest with
   |nil=>rfl
   |cons a l=>simp at hle
  subst this;have ar:Region.ready .any ops listed=[]:=by unfold Region.ready;rw[List.filter_eq_nil_iff];intro i E aw;simp only[bQ,eT]at aw;have:=(dS i).2 ⟨by simpa using E,aw.1⟩;cases this
  exact ⟨ar,norm ah dS ea zk cn sp bZ ar⟩
 |succ fuel aR=>
  intro listed rest st φ ι w a hle ah ea dS jl h4 hlen zk cn sp bZ;refine ⟨norm ah dS ea zk cn sp bZ,λi E=> ?_⟩;unfold Region.ready at E;rw[e8]at E;obtain ⟨hT,e5⟩:=E;have hT:i<ops.size:=by simpa using hT
  simp only[bQ,eT]at e5;have lg:=(dS i).2 ⟨hT,e5.1⟩;have It:ops[i]? =some ops[i]:=Array.getElem?_eq_getElem hT;have aeF: ∀e∈ops[i].after.toList,Region.binds .any e=true->e.on∉rest:=by intro e he L hm;have G:=e5.2;simp only[It,Option.map_some,Option.getD_some]at G;rw[Array.all_eq_true']at G;have ab:=G e (by simpa using he);simp only[L,cL,Bool.false_or]at ab;have aE:=((dS e.on).1 hm);have bf:e.on<listed.size:=u;have bF:=aE.2;simp only[jc,Array.getElem?_eq_getElem bf,Option.getD_some]at ab bF;rw[ab]at bF;cases bF
  have aew: ∀j,((kz ops.toList).getD i 0).testBit j=true->j∉rest:=by
   intro j ak;obtain ⟨e,he,L,h⟩:=aqj (o:=ops[i]) aU ak;rcases h with rfl |⟨q,G⟩
   ·exact aeF e he L
   ·exact jl e.on u (aeF e he L) j G
  obtain ⟨dy,de,rfl⟩:=List.append_of_mem lg;rw[List.pairwise_append]at ah;obtain ⟨s1,s2,jw⟩:=ah;rw[List.pairwise_cons]at s2;have aya:=oi.front zk λj ak=>(pY j i (jw j ak i aU) hT).resolve_left λh=>aew j h (dp.2 (.inl ak))
  obtain ⟨cd,gE,ayb⟩:=aya;obtain ⟨o,aJ,W,he,j7⟩:=gE.ex;have avA:o=ops[i]:=by rw[It]at W;exact (eW W).symm
  have hmul:slotsOf*i+slotsOf<=slotsOf*ops.size:=by
   have:=Nat.mul_le_mul_left slotsOf hT
   rwa [Nat.mul_succ]at this
  have auJ:pO nt.n o=true:=by rw[avA];exact fC.1 Rd _ aU
  have ed:jg st.heap (base+slotsOf*i) aJ:=⟨u,λk q G=>h4 i aU k q u⟩;have qa:=Nr tab c7 he cn ed auJ (og:=wpAnyIn (e9 nt.ro) 0 P .any ops bA fuel (listed.setIfInBounds i true)) (bA:=bA) λbs aq av aH cY axW awk awD=>by
   have cw: ∀j,j∈dy++de->j≠i:=by
    rintro j ak rfl;rcases dp.1 ak with h |h
    ·have:=jw j h j aU;omega
    ·have:=s2.1 j h;omega
   have p5: ∀j,j∈dy++de↔(j∈dy++i::de/\j≠i):=by
    intro j;constructor
    ·intro h;refine ⟨?_,cw j h⟩;rcases dp.1 h with h |h
     ·exact dp.2 (.inl h)
     ·exact dp.2 (.inr (by simp[h]))
    ·rintro ⟨h,iP⟩;rcases dp.1 h with h |h
     ·exact dp.2 (.inl h)
     ·exact dp.2 (.inr (by simpa [iP] using h))
   refine aR (listed.setIfInBounds i true) (dy++de) cd av aH aq bs (by simp at hle ⊢;omega) ?_ (by simp[ea]) (λj=> ?_) (λj ak avu b L=> ?_) (λj ak c8 q G=> ?_) (by rw[gE.left.len,hlen]) ayb cY (sp.trans axW) (bZ.trans awk)
   ·rw[List.pairwise_append];exact ⟨s1,s2.2,λx al y bt=>jw x al y (by simp[bt])⟩
   ·rw[p5,dS];simp only[jc,Array.getElem?_setIfInBounds];by_cases iP:i=j
    ·subst iP;have:i<listed.size:=u;simp[this]
    ·simp only[if_neg iP];constructor
     ·rintro ⟨h,-⟩;exact h
     ·intro h;exact ⟨h,λcB=>iP cB.symm⟩
   ·intro hm;have CH:=((p5 b).1 hm).1;by_cases iP:j=i
    ·subst iP;exact aew b L CH
    ·exact jl j ak (λh=>avu ((p5 j).2 ⟨h,iP⟩)) b L CH
   ·have iD:=(p5 j).1 ak;have iP:=iD.2;have:c8<base+slotsOf*i\/aJ<=c8:=by
     rcases Nat.lt_or_ge j i with h |h
     ·left;have:=Nat.mul_le_mul_left slotsOf h;rw[Nat.mul_succ]at this;omega
     ·right;have pc:i<j:=u;have:=Nat.mul_le_mul_left slotsOf pc;rw[Nat.mul_succ]at this;omega
    rw[awD.same c8 this];exact h4 j iD.1 c8 q G
  unfold wpOpIn;rw[W];simp only;split
  ·rename_i h;rw[if_pos h]at qa;exact qa
  ·rename_i h;rw[if_neg h]at qa;exact ⟨λ_ _=>trivial,qa⟩
end
open Go.RowKit
theorem tS (t:aB) (x:t.den):t.cast? t x=some x:=by simp[aB.cast?]
theorem aaO: ∀(ni:List aB) (l:List eN) (c:(chain ni).den),xb ni l=some c->(chain ni).parts c=l
 |[],[],c,h=>rfl
 |[],_::_,c,h=>by simp[xb]at h
 |_::_,[],c,h=>by simp[xb]at h
 |t::ni,I::l,c,h=>by
  simp only[xb]at h;split at h
  ·rename_i x y al bt;obtain rfl:=eW h;obtain ⟨e,afo⟩:=rN al;obtain ⟨ae,z⟩:=I;simp only at e;subst e;simp only at afo;have:=aaO ni l y bt;simp only[chain,aB.parts,this,afo]
  ·cases h
mutual
theorem cu.dec_enc: ∀(d:cu) (r:K) (l rest:List eN),d.dec r=some l->d.enc (l++rest)=some (r,rest)
 | .dat t,r,l,rest,h=>by
  cases r<;>simp only[cu.dec,reduceCtorEq]at h;rename_i ae x;cases L:decide (ae=t)
  ·simp[L]at h
  ·simp only[L,an,bJ]at h;have e:ae=t:=by simpa using L
   subst e h;simp[cu.enc,mD,tS]
 | .clip t,r,l,rest,h=>by
  cases r<;>simp only[cu.dec,reduceCtorEq]at h;rename_i ae x;cases L:decide (ae=t)
  ·simp[L]at h
  ·simp only[L,an,bJ]at h;have e:ae=t:=by simpa using L
   subst e h;simp[cu.enc,mD,tS]
 | .own t o,r,l,rest,h=>by
  cases r<;>simp only[cu.dec,reduceCtorEq]at h;rename_i ae dV;cases L:decide (ae=t)&&Nat.beq o dV
  ·simp[L]at h
  ·simp only[L,an,bJ]at h;simp only[bQ,dT,Nat.beq_eq]at L;obtain ⟨M,V⟩:=L;subst M V h;simp[cu.enc]
 | .ptr o t i p,r,l,rest,h=>by
  cases r<;>simp only[cu.dec,reduceCtorEq]at h;rename_i dV iJ rp hp;cases L:Nat.beq o dV&&decide (t=iJ)&&Nat.beq i rp&&decide (p=hp)
  ·simp[L]at h
  ·simp only[L,an,bJ]at h;simp only[bQ,dT,Nat.beq_eq]at L;obtain ⟨⟨⟨M,V⟩,a1⟩,bp⟩:=L;subst M V a1 bp h;simp[cu.enc]
 | .agg d,r,l,rest,h=>by cases r<;>simp only[cu.dec,reduceCtorEq]at h;rename_i m;simp[cu.enc,cu.decL_enc d m l rest h]
 | .fn f a b,r,l,rest,h=>by
  cases r<;>simp only[cu.dec,reduceCtorEq]at h;rename_i g x y;cases L:Nat.beq f g
  ·simp[L]at h
  ·simp only[L,an]at h;have e:f=g:=by simpa using L
   subst e;split at h
   ·rename_i dy q;obtain ⟨m,hm,rfl⟩:=h9.1 h;have bd:=cu.decL_enc a x dy (m++rest) q;have a6:=cu.decL_enc b y m rest hm;simp only[cu.enc,List.append_assoc,bd,a6,Option.map_some]
   ·cases h
 | .iface T d,r,l,rest,h=>by
  cases r<;>simp only[cu.dec,reduceCtorEq]at h;rename_i U x;cases L:Nat.beq T U
  ·simp[L]at h
  ·simp only[L,an]at h;have e:T=U:=by simpa using L
   subst e;simp[cu.enc,cu.dec_enc d x l rest h]
 | .nils e t,r,l,rest,h=>by
  cases r<;>simp only[cu.dec,reduceCtorEq]at h;rename_i ei iJ;cases L:Nat.beq e ei&&decide (t=iJ)
  ·simp[L]at h
  ·simp only[L,an,bJ]at h;simp only[bQ,dT,Nat.beq_eq]at L;obtain ⟨M,V⟩:=L;subst M V h;simp[cu.enc]
 | .nilI,r,l,rest,h=>by cases r<;>simp only[cu.dec,reduceCtorEq]at h;obtain rfl:=eW h;rfl
 | .dfr f a b t,r,l,rest,h=>by
  cases r<;>simp only[cu.dec,reduceCtorEq]at h;rename_i g x y ae xs;cases L:Nat.beq f g&&decide (ae=t)
  ·simp[L]at h
  ·simp only[L,an]at h;simp only[bQ,dT,Nat.beq_eq]at L;obtain ⟨M,V⟩:=L;subst M V;split at h
   ·rename_i dy q;split at h
    ·rename_i de G;obtain rfl:=eW h;have bw:=cu.decL_enc a x dy (de++(⟨.list ae,xs⟩::rest)) q;have bS:=cu.decL_enc b y de (⟨.list ae,xs⟩::rest) G;have cl:dy++(de++[⟨.list ae,xs⟩])++rest=dy++(de++(⟨.list ae,xs⟩::rest)):=aU;rw[cl];simp[cu.enc,bw,bS,mD,aB.cast?]
    ·cases h
   ·cases h
 | .yld Y o,r,l,rest,h=>by
  cases r<;>simp only[cu.dec,reduceCtorEq]at h;rename_i sb dV;cases L:Nat.beq Y sb&&Nat.beq o dV
  ·simp[L]at h
  ·simp only[L,an,bJ]at h;simp only[bQ,Nat.beq_eq]at L;obtain ⟨M,V⟩:=L;subst M V h;simp[cu.enc]
 | .nilF,r,l,rest,h=>by cases r<;>simp only[cu.dec,reduceCtorEq]at h;obtain rfl:=eW h;rfl
 | .nilP,r,l,rest,h=>by cases r<;>simp only[cu.dec,reduceCtorEq]at h;obtain rfl:=eW h;rfl
 | .undef,r,l,rest,h=>by cases r<;>simp only[cu.dec,reduceCtorEq]at h;obtain rfl:=eW h;rfl
theorem cu.decL_enc: ∀(d:List cu) (r:List K) (l rest:List eN),cu.decL d r=some l->cu.encL d (l++rest)=some (r,rest)
 |[],[],l,rest,h=>by simp only[cu.decL,bJ]at h;subst h;rfl
 |[],_::_,l,rest,h=>by simp[cu.decL]at h
 |_::_,[],l,rest,h=>by simp[cu.decL]at h
 |d::mC,r::rs,l,rest,h=>by
  simp only[cu.decL]at h;split at h
  ·rename_i a aV;obtain ⟨b,L,rfl⟩:=h9.1 h;have bd:=cu.dec_enc d r a (b++rest) aV;have a6:=cu.decL_enc mC rs b rest L;simp only[cu.encL,List.append_assoc,bd,a6,Option.map_some]
  ·cases h
end
theorem rI: ∀(d:List (Nat×cu)) (R:bR) (l rest:List eN),jb d R=some l->qt d (l++rest)=some (R,rest)
 |[],[],l,rest,h=>by simp only[jb,bJ]at h;subst h;rfl
 |[],_::_,l,rest,h=>by simp[jb]at h
 |_::_,[],l,rest,h=>by simp[jb]at h
 |(I,d)::mC,(e,r)::rs,l,rest,h=>by
  simp only[jb]at h;cases L:Nat.beq I e
  ·simp[L]at h
  ·simp only[L,an]at h;have e:I=e:=by simpa using L
   subst e;split at h
   ·rename_i a aV;obtain ⟨b,L,rfl⟩:=h9.1 h;have bd:=cu.dec_enc d r a (b++rest) aV;have a6:=rI mC rs b rest L;simp only[qt,List.append_assoc,bd,a6,Option.map_some]
   ·cases h
theorem dZ.dec_enc (d:dZ) (b:aG) (l rest:List eN) (h:d.dec b=some l):d.enc (l++rest)=some (b,rest):=by
 cases d with
 |arr e t fz=>
  cases b<;>simp only[dZ.dec,reduceCtorEq]at h;rename_i ei ae xs kL;cases L:Nat.beq e ei&&decide (ae=t)&&decide (fz=kL)
  ·simp[L]at h
  ·simp only[L,an,bJ]at h;simp only[bQ,dT,Nat.beq_eq]at L;obtain ⟨⟨M,V⟩,a1⟩:=L;subst M V a1 h;simp[dZ.enc,mD,tS]
 |box T t r=>
  cases b<;>simp only[dZ.dec,reduceCtorEq]at h;rename_i E3 iJ d;cases L:Nat.beq T E3&&decide (t=iJ)
  ·simp[L]at h
  ·simp only[L,an]at h;simp only[bQ,dT,Nat.beq_eq]at L;obtain ⟨M,V⟩:=L;subst M V;simp[dZ.enc,cu.dec_enc r d l rest h]
 |iter=>
  cases b<;>simp only[dZ.dec,reduceCtorEq,bJ]at h;subst h;simp[dZ.enc,mD,tS]
 |gone=>
  cases b<;>simp only[dZ.dec,reduceCtorEq,bJ]at h;subst h;simp[dZ.enc]
 |loop Y R=>
  cases b<;>simp only[dZ.dec,reduceCtorEq]at h;rename_i sb eQ p;cases L:Nat.beq Y sb
  ·simp[L]at h
  ·simp only[L,an]at h;have e:Y=sb:=by simpa using L
   subst e;obtain ⟨m,hm,rfl⟩:=h9.1 h;have bd:=rI R eQ m ([⟨.int .i64,p⟩]++rest) hm;rw[List.append_assoc];simp only[dZ.enc,bd];simp only[mD,List.cons_append,List.nil_append,tS,Option.map_some]
theorem abj: ∀(d:List dZ) (R:List aG) (l rest:List eN),fW d R=some l->xr d (l++rest)=some (R,rest)
 |[],[],l,rest,h=>by simp only[fW,bJ]at h;subst h;rfl
 |[],_::_,l,rest,h=>by simp[fW]at h
 |_::_,[],l,rest,h=>by simp[fW]at h
 |d::mC,r::rs,l,rest,h=>by
  simp only[fW]at h;split at h
  ·rename_i a aV;obtain ⟨b,L,rfl⟩:=h9.1 h;have bd:=dZ.dec_enc d r a (b++rest) aV;have a6:=abj mC rs b rest L;simp only[xr,List.append_assoc,bd,a6,Option.map_some]
  ·cases h
theorem Shape.dec_enc {S:Shape} {st:bU} {d:S.ty.den} (h:S.dec st=some d):S.enc d=st:=by
 unfold Shape.dec at h;cases aV:jb S.regs st.regs with
 |none=>simp[aV]at h
 |some a=>
  cases L:fW S.objs st.heap with
  |none=>simp[aV,L]at h
  |some b=>
   simp only[aV,L]at h;have aT:S.ty.parts d=a++b:=aaO _ _ d h;unfold Shape.enc;rw[aT,rI _ _ a b aV];have:=abj _ _ b [] L;rw[List.append_nil]at this;simp only[this]
open Go.RowKit
structure hg [Env] (φ:bL) (ι:Nat->az) (w:bk) (J:List aG) (n:Nat) (av:bL) (aH:Nat->az) (aA:List aG) (aJ:Nat):Prop where
 rel:cg av aH w aA
 step:Step φ ι w J av aH w aA
 keep:eo ι J aH aA
 top:aJ=aA.length
section
variable {φ:bL} {ι:Nat->az} {w:bk} {J:List aG} {n:Nat} {aA:List aG} {aJ:Nat}
theorem hg.refl [Env] (h:cg φ ι w J) (aO:n=J.length):hg φ ι w J n φ ι J n:=⟨h,Step.refl _ _ _ _,eo.refl _ _,aO⟩
theorem hg.trans [Env] {dE:bL} {fo:Nat->az} {H1:List aG} {dm:Nat} {ee:bL} {en:Nat->az} {ff:List aG} {ec:Nat} (a:hg φ ι w J n dE fo H1 dm) (b:hg dE fo w H1 dm ee en ff ec):hg φ ι w J n ee en ff ec:=
 ⟨b.rel,a.step.trans b.step,a.keep.trans b.keep,b.top⟩
theorem hg.ghost [Env] {av:bL} (g:fe φ ι w J av aA) (aO:n=J.length):hg φ ι w J n av ι aA n:=⟨g.rel,g.step,g.keep,by rw[g.len,aO]⟩
theorem hg.of_yld [Env] {r:K} {v:az} (y:cG φ ι w J n r aA aJ (.ok v w)) (aO:n=J.length): ∃av aH,hg φ ι w J n av aH aA aJ/\r.rel av aH w v/\ ∀i∈r.ids,(aF aA i).live=true:=by
 obtain ⟨lx,aq,av,aH,e,q,G,ab,aE,bf,bF⟩:=y;injection e with M V
 subst M V;exact ⟨av,aH,⟨q,G,ab,(aE.seq aO).symm⟩,bf,bF⟩
theorem ar4 [Env] (h:cg φ ι w J) {t ae:aB} {o E:Nat} {e:bq} {xs:List ae.den} {v:az} (ar:(K.view t o 0 E).rel φ ι w v) (W:aF J o=.arr e ae xs false) (aO:n=J.length):
  ∃av aH,hg φ ι w J n av aH (b8 (b8 J o .gone) n (.arr e ae (xs.take E) false)) (n+1)/\(K.own ae n).rel av aH w v/\ ∀i∈(K.own ae n).ids,(aF (b8 (b8 J o .gone) n (.arr e ae (xs.take E) false)) i).live=true:=by
 obtain ⟨A,m,c,dh,M,bY,q,G,rfl,ab,aE⟩:=ar;have dB:=h.obj o;rw[W]at dB;obtain ⟨jx,cV,ba,f1,f2,f3,f4,f5⟩:=dB;rw[M]at f1;obtain ⟨rfl,rfl,rfl⟩:=iO f1;have oE:(aF J o).owns=true:=by rw[W];rfl
 have h4:(aF J n).live=false:=by rw[aO,pn (ca _)];rfl
 have Cg:c≠0->dh=A:=by intro aw;obtain ⟨b,dq,L⟩:=aE aw;rw[ab aw,L];simp[hI]
 obtain ⟨bd,a6,cp,eh⟩:=xf (av:=φ) (aq:=w) h oE u h4 (v:=.slice dh (E-0) (c-0)) (dg:=.arr e ae (xs.take E) false) rfl rfl rfl rfl rfl (ca _) (λ_ _ _=>rfl) (λ_ _ h=>h) (λ_ _ _=>rfl) (λ_ _ h=>.inl h)
  (λb L=>by
   right;rw[M];by_cases aw:c=0
   ·subst aw;cases dh<;>simp[dM]at L
   ·rw[Cg aw]at L;cases A<;>simp[dM,aw]at L ⊢;exact L)
  (by
   refine ⟨dh,E-0,c-0,by simp[eg],by simp;omega,u,u,?_⟩;rcases f5 with f5 |⟨b,pre,cur,c6,g1,g2,g3,g4,g0,g5,g6,g7,g8⟩
   ·left;omega
   ·by_cases aw:c=0
    ·left;omega
    ·right;refine ⟨b,pre,cur,c6,(Cg aw).trans g1,g2,by simpa using g3,g4,g0,⟨g5.one,g5.at_ g6 _⟩,?_,λk af=>(by have:=(g7 k af).1;cases this),λh=>(by cases h)⟩;have:=g6.take (λx c=>bz.len ae x c) E;rw[List.take_take]at this;rw[Nat.sub_zero]
     rwa [Nat.min_eq_left (gV _ q)]at this)
 refine ⟨φ,_,⟨bd,a6,cp,(eh.seq aO).symm⟩,uN ⟨by simp[eg],_,_,_,rfl⟩,?_⟩;intro i E;have:i=n:=by simpa [K.ids] using E
 subst this;have ad:(b8 J o .gone).length=J.length:=ij J o _ (gM (by rw[W];rfl));rw[gL _ i _ i u,if_pos rfl];rfl
theorem ar3 [Env] (h:cg φ ι w J) {ae:aB} {o aQ E:Nat} {e:bq} {xs:List ae.den} {v:az} (ar:(K.view ae o aQ E).rel φ ι w v) (W:aF J o=.arr e ae xs false) (aO:n=J.length):
  ∃av aH,hg φ ι w J n av aH (b8 (b8 J o .gone) n (.arr e ae ((xs.take E).drop aQ) false)) (n+1)/\(K.own ae n).rel av aH w v/\ ∀i∈(K.own ae n).ids,(aF (b8 (b8 J o .gone) n (.arr e ae ((xs.take E).drop aQ) false)) i).live=true:=by
 obtain ⟨A,m,c,dh,M,bY,q,G,rfl,ab,aE⟩:=ar;have dB:=h.obj o;rw[W]at dB;obtain ⟨jx,cV,ba,f1,f2,f3,f4,f5⟩:=dB;rw[M]at f1;obtain ⟨rfl,rfl,rfl⟩:=iO f1;have oE:(aF J o).owns=true:=by rw[W];rfl
 have h4:(aF J n).live=false:=by rw[aO,pn (ca _)];rfl
 have Cg:c≠aQ-> ∃b dq,A=some ⟨b,dq,none⟩/\dh=some ⟨b,dq+aQ*ae.size,none⟩:=by intro aw;obtain ⟨b,dq,L⟩:=aE u;refine ⟨b,dq,L,?_⟩;rw[ab aw,L];simp[hI]
 obtain ⟨bd,a6,cp,eh⟩:=xf (av:=φ) (aq:=w) h oE u h4 (v:=.slice dh (E-aQ) (c-aQ)) (dg:=.arr e ae ((xs.take E).drop aQ) false) rfl rfl rfl rfl rfl (ca _) (λ_ _ _=>rfl) (λ_ _ h=>h) (λ_ _ _=>rfl) (λ_ _ h=>.inl h)
  (λb L=>by
   right;rw[M];by_cases aw:c=aQ
   ·rw[aw,Nat.sub_self]at L;cases dh<;>simp[dM]at L
   ·obtain ⟨bX,dq,rfl,rfl⟩:=Cg aw;have bu:aQ<c:=Nat.lt_of_le_of_ne (Nat.le_trans bY (Nat.le_trans q G)) (Ne.symm aw);have m1:c-aQ≠0:=Nat.sub_ne_zero_of_lt bu;have lM:c≠0:=Nat.pos_iff_ne_zero.1 (Nat.lt_of_le_of_lt (Nat.zero_le aQ) bu);simp only[dM,if_neg m1,if_neg lM]at L ⊢;exact L)
  (by
   refine ⟨dh,E-aQ,c-aQ,by simp[eg],by simp;omega,u,u,?_⟩;by_cases aw:c=aQ
   ·left;omega
   ·rcases f5 with f5 |⟨b,pre,cur,c6,g1,g2,g3,g4,g0,g5,g6,g7,g8⟩
    ·left;omega
    ·right;obtain ⟨bX,dq,bw,bS⟩:=Cg aw;rw[g1]at bw;injection bw with bw
     injection bw with bw SH
     subst bw SH;have aeY:aQ*ae.size<=cur.toList.length:=by rw[ix,g3];exact gV _ u
     have avT:(pre.toList++cur.toList.take (aQ*ae.size)).toArray++(cur.toList.drop (aQ*ae.size)).toArray=pre++cur:=by apply Array.ext';simp
     have afa:((pre.toList++cur.toList.take (aQ*ae.size)).toArray).size=pre.size+aQ*ae.size:=by simp only[List.size_toArray,eF,ev,ix]at aeY ⊢;omega
     have p0:((cur.toList.drop (aQ*ae.size)).toArray).size=cur.size-aQ*ae.size:=aU;rw[ix]at aeY;have hmul:(E-aQ)*ae.size=E*ae.size-aQ*ae.size:=Nat.sub_mul _ _ _;have azG:aQ*ae.size<=E*ae.size:=gV _ bY;refine ⟨b,(pre.toList++cur.toList.take (aQ*ae.size)).toArray,(cur.toList.drop (aQ*ae.size)).toArray,c6,by rw[bS,afa],by rw[avT];exact g2,by rw[p0,g3,<-Nat.sub_mul],by rw[afa,p0,show pre.size+aQ*ae.size+(cur.size-aQ*ae.size)=pre.size+cur.size by omega];exact g4,?_,⟨?_,?_⟩,?_,λk af=>(by have:=(g7 k af).1;cases this),λh=>(by cases h)⟩
     ·intro x al;rcases dp.1 al with al |al
      ·exact g0 x al
      ·exact g5.one x (List.mem_of_mem_take al)
     ·intro x al;exact g5.one x (List.mem_of_mem_drop al)
     ·have:=g5.at_ g6 E;refine this.imp id λ⟨eM,bI⟩=>⟨eM,?_⟩
      show c2 _ _ ((cur.toList.drop (aQ*ae.size)).drop ((E-aQ)*ae.size));rw[List.drop_drop,show aQ*ae.size+(E-aQ)*ae.size=E*ae.size by omega];exact bI
     ·have:=(g6.take (λx c=>bz.len ae x c) E).drop (λx c=>bz.len ae x c) aQ;have nC:(cur.toList.take (E*ae.size)).drop (aQ*ae.size)=(cur.toList.drop (aQ*ae.size)).take ((E-aQ)*ae.size):=by rw[List.drop_take,hmul]
      rw[List.take_take,Nat.min_eq_left (gV _ q),nC]at this;exact this)
 refine ⟨φ,_,⟨bd,a6,cp,(eh.seq aO).symm⟩,uN ⟨by simp[eg],_,_,_,rfl⟩,?_⟩;intro i E;have:i=n:=by simpa [K.ids] using E
 subst this;have ad:(b8 J o .gone).length=J.length:=ij J o _ (gM (by rw[W];rfl));rw[gL _ i _ i u,if_pos rfl];rfl
mutual
theorem M3 [Env]: ∀(d:cu) (r gT:K) (v:az) (φ:bL) (ι:Nat->az) (J:List aG) (n:Nat) (aA:List aG) (aJ:Nat),(Bi d r).go J n=some (gT,aA,aJ)->n=J.length->cg φ ι w J->r.rel φ ι w v->(∀i∈r.ids,(aF J i).live=true)->
  ∃av aH,hg φ ι w J n av aH aA aJ/\gT.rel av aH w v/\ ∀i∈gT.ids,(aF aA i).live=true:=by
 intro d r gT v φ ι J n aA aJ e aO h ar ad;unfold Bi at e;split at e
 ·rename_i t r;obtain ⟨x,H1,dm,M,V⟩:=HM.go_bind_some e;obtain ⟨rfl,rfl,rfl⟩:=go_ret V;have s:=FN M h ar ad;clear M e V;obtain ⟨q,dE,g,a8⟩:=s;subst q;exact ⟨dE,ι,hg.ghost g aO,h2 a8,by simp[K.ids]⟩
 ·rename_i a b cl t;simp only[HM.go]at e;obtain ⟨rfl,rfl,rfl⟩:=go_ret e;have ar:v=.slice none 0 0:=ar;subst ar;exact hg.of_yld (U3 h u (by rw[aO,pn (ca _)];rfl)) aO
 ·rename_i a b t o E;simp only[HM.go]at e;split at e
  ·rename_i cl ae xs W;simp only[HM.go]at e;obtain ⟨rfl,rfl,rfl⟩:=go_ret e;exact ar4 h ar W aO
  ·simp[HM.go]at e
 ·rename_i a b t o aQ E _;simp only[HM.go]at e;split at e
  ·rename_i cl ae xs W;have s:=go_bif e;clear e;obtain ⟨hu,e⟩:=s;have hu:ae=t:=by simpa using hu
   subst hu;simp only[HM.go]at e;obtain ⟨rfl,rfl,rfl⟩:=go_ret e;exact ar3 h ar W aO
  ·simp[HM.go]at e
 ·rename_i l m;obtain ⟨rE,H1,dm,M,V⟩:=HM.go_bind_some e;obtain ⟨rfl,rfl,rfl⟩:=go_ret V;obtain ⟨cs,rfl,ar⟩:=ar;obtain ⟨dE,fo,t,bd,a6⟩:=ZE l m rE cs.toList φ ι J n _ _ M aO h ar (λi E=>ad i (by simpa [K.ids] using E));exact ⟨dE,fo,t,GO ⟨cs,rfl,bd⟩,λi E=>a6 i (by simpa [K.ids] using E)⟩
 ·obtain ⟨rfl,rfl,rfl⟩:=go_ret e;exact ⟨φ,ι,hg.refl h aO,ar,ad⟩
theorem ZE [Env]: ∀(d:List cu) (l fF:List K) (cs:List az) (φ:bL) (ι:Nat->az) (J:List aG) (n:Nat) (aA:List aG) (aJ:Nat),(GC d l).go J n=some (fF,aA,aJ)->n=J.length->cg φ ι w J->K.relL φ ι w l cs->(∀i∈K.idsL l,(aF J i).live=true)->
  ∃av aH,hg φ ι w J n av aH aA aJ/\K.relL av aH w fF cs/\ ∀i∈K.idsL fF,(aF aA i).live=true:=by
 intro d l fF cs φ ι J n aA aJ e aO h ar ad;unfold GC at e;split at e
 ·rename_i d mC r rs;obtain ⟨ag,H1,dm,M,V⟩:=HM.go_bind_some e;obtain ⟨dy,ff,ec,a1,bp⟩:=HM.go_bind_some V;obtain ⟨rfl,rfl,rfl⟩:=go_ret bp;obtain ⟨v,ba,rfl,q,G⟩:=ar;obtain ⟨dE,fo,t1,bd,a6⟩:=M3 d r ag v φ ι J n H1 dm M aO h q (λi E=>ad i (by simp[K.idsL,E]));obtain ⟨ee,en,t2,cp,eh⟩:=ZE mC rs dy ba dE fo H1 dm _ _ a1 t1.top t1.rel (K.relL_mono t1.step.phi t1.step.cells rs ba (λi E=>t1.keep.iota i (ad i (by simp[K.idsL,E]))) G) (λi E=>t1.keep.live i (ad i (by simp[K.idsL,E])));refine ⟨ee,en,t1.trans t2,⟨v,ba,rfl,K.rel_step t2.step t2.keep a6 bd,cp⟩,λi E=> ?_⟩;simp only[K.idsL,dp]at E;rcases E with E |E
  ·exact t2.keep.live i (a6 i E)
  ·exact eh i E
 ·obtain ⟨rfl,rfl,rfl⟩:=go_ret e;exact ⟨φ,ι,hg.refl h aO,ar,ad⟩
end
end
open Go.RowKit
def mQ (φ:bL) (ι:Nat->az) (w:bk) (J:List aG) (R:bR) (jM:Nat->az):Prop:= ∀I r,R.get I=some r->r.rel φ ι w (jM I)/\ ∀i∈r.ids,(aF J i).live=true
def ie (m:Nat) (ι:Nat->az) (J:List aG) (aH:Nat->az) (aA:List aG):Prop:= ∀o,o<m->(aF J o).live=true->aH o=ι o/\(aF aA o).live=true
def li (m:Nat) (J:List aG):Prop:= ∀o,o<m->(aF J o).live=true
theorem eo.keepM {ι aH:Nat->az} {J aA:List aG} (k:eo ι J aH aA) (m:Nat):ie m ι J aH aA:=λo _ h=>⟨k.iota o h,k.live o h⟩
theorem ie.refl (m:Nat) (ι:Nat->az) (J:List aG):ie m ι J ι J:=λ_ _ h=>⟨rfl,h⟩
theorem ie.trans {m:Nat} {ι aH hL:Nat->az} {J aA mL:List aG} (h:ie m ι J aH aA) (k:ie m aH aA hL mL):ie m ι J hL mL:=
 λo W ad=>let ⟨q,G⟩:=h o W ad;let ⟨bd,a6⟩:=k o W G;⟨bd.trans q,a6⟩
theorem ie.live {m:Nat} {ι aH:Nat->az} {J aA:List aG} (k:ie m ι J aH aA) (l:li m J):li m aA:=λo W=>(k o W (l o W)).2
section
variable {φ:bL} {ι:Nat->az} {w:bk} {J:List aG} {n:Nat} {aA:List aG} {aJ:Nat} {jM:Nat->az}
theorem mQ.step {av:bL} {aH:Nat->az} {aq:bk} {R:bR} (d:Step φ ι w J av aH aq aA) (k:eo ι J aH aA) (h:mQ φ ι w J R jM):mQ av aH aq aA R jM:=
 λI r ar=>⟨K.rel_step d k (h I r ar).2 (h I r ar).1,λi E=>k.live i ((h I r ar).2 i E)⟩
theorem amX [Env]: ∀(os:List Nat) (mC:List dZ) (ae:Unit) (φ:bL) (ι:Nat->az) (J:List aG) (n:Nat) (aA:List aG) (aJ:Nat),(rH os mC).go J n=some (ae,aA,aJ)->n=J.length->cg φ ι w J->
  ∃av aH,hg φ ι w J n av aH aA aJ:=by
 intro os mC ae φ ι J n aA aJ e aO h
 induction os generalizing mC φ ι J n with
 |nil=>
  unfold rH at e;obtain ⟨-,rfl,rfl⟩:=go_ret e;exact ⟨φ,ι,hg.refl h aO⟩
 |cons o l aR=>
  unfold rH at e;split at e
  ·rename_i dV fF ay8 t0 d m heq;injection heq with bw bS
   subst bw bS;simp only[HM.go]at e;split at e
   ·rename_i lA t1 r L;obtain ⟨gT,H1,dm,M,V⟩:=HM.go_bind_some e;have dB:=h.obj o;rw[L]at dB;obtain ⟨b,cur,c6,v,g1,g2,g3,g4,g5,g6,g7,g8,g9⟩:=dB;have fs:(aF J o).live=true:=by rw[L];rfl
    obtain ⟨dE,fo,t,bd,a6⟩:=M3 d r gT v φ ι J n H1 dm M aO h g6 (λi E=>h.idsB o lA t1 r L i E);clear e M;simp only[HM.go]at V;split at V
    ·rename_i T t2 aS eE;have s:=go_bif V;clear V;obtain ⟨aM,a1⟩:=s;simp only[HM.go]at a1;have CM:=t.rel.obj o;rw[eE]at CM;obtain ⟨bX,atF,ad9,lx,f1,f2,f3,f4,f5,f6,f7,f8,f9⟩:=CM;have CG:o<H1.length:=gM (by rw[eE];rfl);have jn:fo o=ι o:=t.keep.iota o fs;rw[jn,g1]at f1;have pZ:b=bX:=by simpa using f1
     subst pZ;have vl:cur=atF/\c6=ad9:=by
      rw[g2]at f2;have f2:=eW f2;injection f2 with bw bS dD
      exact ⟨bw,dD⟩
     obtain ⟨rfl,rfl⟩:=vl;have bO: ∀i,aF (b8 H1 o (.box T t2 gT)) i=if i=o then .box T t2 gT else aF H1 i:=λi=>gL H1 o _ i (Nat.le_of_lt CG)
     have m7: ∀i,(aF (b8 H1 o (.box T t2 gT)) i).owns=(aF H1 i).owns:=λi=>by
      rw[bO];split
      ·rename_i e;subst e;rw[eE];rfl
      ·rfl
     have e2: ∀i,(aF (b8 H1 o (.box T t2 gT)) i).live=(aF H1 i).live:=λi=>by
      rw[bO];split
      ·rename_i e;subst e;rw[eE];rfl
      ·rfl
     have ek:cg dE fo w (b8 H1 o (.box T t2 gT)):=by
      refine t.rel.update (λi=>i=o) (λi E=>by rw[bO,if_neg E]) (λ_ _=>rfl) (λi E=>by rw[e2];exact E) (λi E=> ?_) (λi E j ak=> ?_) (λ_ _ _ _ _=>rfl) (λ_ _ _=>rfl) (λi j bX _ q G ab aE=> ?_)
      ·subst E;rw[bO,if_pos rfl];exact ⟨b,cur,c6,v,jn.trans g1,f2,f3,f4,f5,bd,g7,aM,f9⟩
      ·subst E;rw[bO,if_pos rfl]at ak;rw[e2];exact a6 j ak
      ·rw[m7]at q G;exact t.rel.apart i j bX q G ab aE
     have t2:hg dE fo w H1 dm dE fo (b8 H1 o (.box T t2 gT)) dm:=
      ⟨ek,⟨λ_ _ h=>h,λ_ _ _=>rfl,λ_ _ h=>.inl h,ca _,rfl,rfl,rfl,λ_ _ _=>rfl,λb ⟨i,q,G⟩=>.inr ⟨i,by rw[<-m7];exact q,G⟩⟩,⟨λ_ _=>rfl,λi E=>by rw[e2];exact E⟩,by rw[ij H1 o _ CG];exact t.top⟩
     obtain ⟨mJ,mI,t3⟩:=aR m dE fo _ dm a1 t2.top ek;exact ⟨mJ,mI,(t.trans t2).trans t3⟩
    ·simp[HM.go]at V
   ·simp[HM.go]at e
  ·rename_i dV fF cl t0 m heq;injection heq with bw bS
   subst bw bS;simp only[HM.go]at e;split at e
   ·rename_i M t1 xs fz L;simp only[HM.go]at e;obtain ⟨dE,g,-⟩:=M5 h o (gM (by rw[L];rfl));have t1:=hg.ghost g aO;obtain ⟨mJ,mI,t3⟩:=aR m dE ι _ n e t1.top g.rel;exact ⟨mJ,mI,t1.trans t3⟩
   ·simp[HM.go]at e
  ·rename_i dV fF m heq;injection heq with bw bS
   subst bw bS;simp only[HM.go]at e;split at e
   ·rename_i M t1 xs fz L;simp only[HM.go]at e;have CG:o<J.length:=gM (by rw[L];rfl);have bO: ∀i,aF (b8 J o .gone) i=if i=o then .gone else aF J i:=λi=>gL J o _ i (Nat.le_of_lt CG)
    have m7: ∀i,(aF (b8 J o .gone) i).owns=true->(aF J i).owns=true:=λi=>by
     rw[bO];split
     ·intro al;cases al
     ·exact λal=>al
    have e2: ∀i,(aF (b8 J o .gone) i).live=(aF J i).live:=λi=>by
     rw[bO];split
     ·rename_i e;subst e;rw[L];rfl
     ·rfl
    have ek:cg φ ι w (b8 J o .gone):=by
     refine h.update (λi=>i=o) (λi E=>by rw[bO,if_neg E]) (λ_ _=>rfl) (λi E=>by rw[e2];exact E) (λi E=> ?_) (λi E j ak=> ?_) (λ_ _ _ _ _=>rfl) (λ_ _ _=>rfl) (λi j bX E q G ab aE=> ?_)
     ·subst E;rw[bO,if_pos rfl];exact trivial
     ·subst E;rw[bO,if_pos rfl]at ak;simp[aG.ids]at ak
     ·subst E;rw[bO,if_pos rfl]at q;cases q
    have t2:hg φ ι w J n φ ι (b8 J o .gone) n:=
     ⟨ek,⟨λ_ _ h=>h,λ_ _ _=>rfl,λ_ _ h=>.inl h,ca _,rfl,rfl,rfl,λ_ _ _=>rfl,λb ⟨i,q,G⟩=>.inr ⟨i,m7 i q,G⟩⟩,⟨λ_ _=>rfl,λi E=>by rw[e2];exact E⟩,by rw[ij J o _ CG];exact aO⟩
    obtain ⟨mJ,mI,t3⟩:=aR m φ ι _ n e t2.top ek;exact ⟨mJ,mI,t2.trans t3⟩
   ·exact aR m φ ι J n e aO h
  ·rename_i x fF y m cw azI azJ heq;injection heq with bw bS
   subst bw bS;exact aR m φ ι J n e aO h
  ·obtain ⟨-,rfl,rfl⟩:=go_ret e;exact ⟨φ,ι,hg.refl h aO⟩
theorem bR.get_ren (ρ:Nat->Nat) (R:bR) (I:Nat):(R.ren ρ).get I=(R.get I).map (K.ren ρ):=by
 induction R with
 |nil=>rfl
 |cons p l aR=>
  obtain ⟨e,r⟩:=p;simp only[bR.ren,bR.get];cases Nat.beq I e
  ·simpa using aR
  ·rfl
theorem bR.get_ids {R:bR} {I:Nat} {r:K} (h:R.get I=some r): ∀i∈r.ids,i∈R.ids:=by
 induction R with
 |nil=>simp[bR.get]at h
 |cons p l aR=>
  obtain ⟨e,x⟩:=p;simp only[bR.get]at h;intro i E;simp only[bR.ids,dp];cases L:Nat.beq I e
  ·simp only[L,ay]at h;exact .inr (aR h i E)
  ·simp only[L,an,bJ]at h;subst h;exact .inl E
theorem XG [Env]: ∀(d:List (Nat×cu)) (R eQ:bR) (φ:bL) (ι:Nat->az) (J:List aG) (n:Nat) (aA:List aG) (aJ:Nat),(As d R).go J n=some (eQ,aA,aJ)->n=J.length->cg φ ι w J->mQ φ ι w J R jM->
  ∃av aH,hg φ ι w J n av aH aA aJ/\mQ av aH w aA eQ jM/\ ∀i∈eQ.ids,(aF aA i).live=true
 |[],R,eQ,φ,ι,J,n,aA,aJ,e,aO,h,ar=>by simp only[As]at e;obtain ⟨rfl,rfl,rfl⟩:=go_ret e;exact ⟨φ,ι,hg.refl h aO,λI r ao=>by simp[bR.get]at ao,by simp[bR.ids]⟩
 |(I,d)::l,R,eQ,φ,ι,J,n,aA,aJ,e,aO,h,ar=>by
  simp only[As]at e;split at e
  ·rename_i r ao;obtain ⟨ag,H1,dm,M,V⟩:=HM.go_bind_some e;obtain ⟨jB,ff,ec,a1,bp⟩:=HM.go_bind_some V;obtain ⟨rfl,rfl,rfl⟩:=go_ret bp;obtain ⟨dE,fo,t1,bd,a6⟩:=M3 d r ag (jM I) φ ι J n H1 dm M aO h (ar I r ao).1 (ar I r ao).2;obtain ⟨ee,en,t2,cp,eh⟩:=XG l R jB dE fo H1 dm _ _ a1 t1.top t1.rel (ar.step t1.step t1.keep);refine ⟨ee,en,t1.trans t2,λe x al=> ?_,λi E=> ?_⟩
   ·simp only[bR.get]at al;cases L:Nat.beq e I
    ·simp only[L,ay]at al;exact cp e x al
    ·simp only[L,an,bJ]at al;have:e=I:=by simpa using L
     subst this al;exact ⟨K.rel_step t2.step t2.keep a6 bd,λi E=>t2.keep.live i (a6 i E)⟩
   ·simp only[bR.ids,dp]at E;rcases E with E |E
    ·exact t2.keep.live i (a6 i E)
    ·exact eh i E
  ·simp[HM.go]at e
theorem aaT [Env] {S:Shape} {m:Nat} {R:bR} {bb:bU} (e:(G7 S m R).go J n=some (bb,aA,aJ)) (aO:n=J.length) (h:cg φ ι w J) (ar:mQ φ ι w J R jM) (hm:li m J):
  ∃av aH,cg av aH w bb.heap/\mQ av aH w bb.heap bb.regs jM/\Step φ ι w J av aH w bb.heap/\ie m ι J aH bb.heap/\li m bb.heap/\m<=bb.heap.length/\li bb.heap.length bb.heap:=by
 unfold G7 at e;obtain ⟨jB,H1,dm,M,V⟩:=HM.go_bind_some e;obtain ⟨dE,fo,t1,bd,a6⟩:=XG S.regs R jB φ ι J n H1 dm M aO h ar;clear e;obtain ⟨p,ff,ec,a1,bp⟩:=HM.go_bind_some V;clear V;obtain ⟨g1,g2,-⟩:=zn 200 _ [] [] p ff ec a1 rfl aU aU;rw[g1,g2]at bp;obtain ⟨ae,l3,n3,cI,c9⟩:=HM.go_bind_some bp;clear bp;obtain ⟨ee,en,t2⟩:=amX p.1 S.objs ae dE fo H1 dm l3 n3 cI t1.top t1.rel;have t:=t1.trans t2;obtain ⟨s,KB,n4,fV,kK⟩:=HM.go_bind_some c9;clear c9;have Rq:li m l3:=λo W=>t.keep.live o (hm o W)
 have gs:=zn 200 _ [] [] s KB n4 fV rfl aU aU;obtain ⟨-,-,m0,dS,-,gP⟩:=gs;have Rs:=gP t.rel.live_ids (λi E=>by
  rcases dp.1 E with E |E
  ·exact Rq i (acL.1 E)
  ·exact t2.keep.live i (a6 i E)) aU
 obtain ⟨cV,Rh⟩:=aaw (k3 m) 200 jB.ids [] [] s KB n4 fV (by simpa using asx m);rw[List.nil_append]at Rh;obtain ⟨rfl,-,-⟩:=go_ret kK;have cp:mQ ee en w l3 jB jM:=bd.step t2.step t2.keep;have aeT: ∀o,o<m->s.1[o]? =some o:=λo W=>by rw[Rh,List.getElem?_append_left (by rw[adh];exact W)];exact aju W
 have hlen:(s.2.map (aG.ren (idx s.1))).length=s.1.length:=by rw[m0.obs];simp
 refine ⟨ee,k2 en s.1,adM t.rel m0 Rs,λI r ao=> ?_,t.step.trans (ajl m0),λo W fs=> ?_,λo W=> ?_,?_,λo W=>adL m0 Rs o W⟩
 ·simp only[bR.get_ren,h9]at ao;obtain ⟨x,al,rfl⟩:=ao;have afp: ∀i∈x.ids,i∈s.1:=λi E=>dS i (dp.2 (.inr (bR.get_ids al i E)))
  refine ⟨K.ren_rel _ x _ (λi E=>Gx (afp i E)) (cp I x al).1,?_⟩;rw[K.ren_ids];exact ade m0 Rs afp
 ·have q:=aeT o W;refine ⟨?_,?_⟩
  ·have:k2 en s.1 o=en o:=by simp[k2,jN,q]
   rw[this];exact t.keep.iota o fs
  ·show (aF (kG s.1 s.2) o).live=true;rw[nV m0 q,aG.ren_live];exact Rq o W
 ·show (aF (kG s.1 s.2) o).live=true;rw[nV m0 (aeT o W),aG.ren_live];exact Rq o W
 ·simp only[hlen];rw[Rh,eF,adh];omega
theorem asS [Env] (h:cg φ ι w J) {o:Nat} {e:bq} {t:aB} {xs:List t.den} {fz:Bool} (W:aF J o=.arr e t xs fz) (aO:n=J.length):
  hg φ ι w J n φ (eg ι n (ι o)) (b8 (b8 J o .gone) n (.arr e t xs fz)) (n+1):=by
 have dB:=h.obj o;rw[W]at dB;have oE:(aF J o).owns=true:=by rw[W];rfl
 have h4:(aF J n).live=false:=by rw[aO,pn (ca _)];rfl
 obtain ⟨bd,a6,cp,eh⟩:=xf (av:=φ) (aq:=w) h oE u h4 (v:=ι o) (dg:=.arr e t xs fz) rfl rfl rfl rfl rfl (ca _) (λ_ _ _=>rfl) (λ_ _ h=>h) (λ_ _ _=>rfl) (λ_ _ h=>.inl h)
  (λb L=>.inr L) (by obtain ⟨A,m,c,f1,f2⟩:=dB;exact ⟨A,m,c,by simpa [eg] using f1,f2⟩)
 exact ⟨bd,a6,cp,(eh.seq aO).symm⟩
theorem JJ [Env]: ∀(l:List dZ) (o:Nat) (s:List (Nat×Nat)) (ι:Nat->az) (J:List aG) (n:Nat) (aA:List aG) (aJ:Nat),(uC l o).go J n=some (s,aA,aJ)->n=J.length->cg φ ι w J->
  ∃aH,hg φ ι w J n φ aH aA aJ/\(s=[]->aA=J/\aJ=n/\aH=ι)/\ ∀i,(aF aA i).live=true->aH (fwd s i)=aH i/\(aF aA (fwd s i)).live=true
 |[],o,s,ι,J,n,aA,aJ,e,aO,h=>by simp only[uC]at e;obtain ⟨rfl,rfl,rfl⟩:=go_ret e;exact ⟨ι,hg.refl h aO,λ_=>⟨rfl,rfl,rfl⟩,λi E=>⟨rfl,E⟩⟩
 |d::l,o,s,ι,J,n,aA,aJ,e,aO,h=>by
  by_cases ah:d=.gone
  ·subst ah;simp only[uC,HM.go]at e;split at e
   ·rename_i cl t xs fz dB;simp only[HM.go]at e;obtain ⟨bS,ff,ec,M,V⟩:=HM.go_bind_some e;obtain ⟨rfl,rfl,rfl⟩:=go_ret V;have lA:=asS h dB aO;have fs:(aF J o).live=true:=by rw[dB];rfl
    have bu:=gM fs;obtain ⟨aH,dX,-,ab⟩:=JJ l (o+1) bS _ _ _ _ _ M lA.top lA.rel;refine ⟨aH,lA.trans dX,⟨λaN=>(by cases aN),λi E=> ?_⟩⟩;have mo:o≠n:=u;have aeR:(aF (b8 (b8 J o .gone) n (.arr cl t xs fz)) n).live=true:=by rw[gL _ n _ n (by rw[ij J o _ bu];omega),if_pos rfl];rfl
    simp only[fwd];cases L:Nat.beq i o
    ·simp only[ay];exact ab i E
    ·simp only[an];have:i=o:=by simpa using L
     subst this;refine ⟨?_,dX.keep.live _ aeR⟩;rw[dX.keep.iota _ aeR,dX.keep.iota _ (lA.keep.live _ fs),lA.keep.iota _ fs];simp[eg]
   ·exact JJ l (o+1) s ι J n aA aJ e aO h
  ·refine JJ l (o+1) s ι J n aA aJ ?_ aO h;cases d with
   |gone=>exact absurd rfl ah
   |_=>exact e
theorem L4 [Env] {ρ:Nat->Nat}: ∀(l:List Nat) (ae:Unit) (J:List aG) (n:Nat) (aA:List aG) (aJ:Nat),(w8 ρ l).go J n=some (ae,aA,aJ)->n=J.length->cg φ ι w J->(∀i,(aF J i).live=true->ι (ρ i)=ι i/\(aF J (ρ i)).live=true)->
  hg φ ι w J n φ ι aA aJ
 |[],ae,J,n,aA,aJ,e,aO,h,C3=>by simp only[w8]at e;obtain ⟨-,rfl,rfl⟩:=go_ret e;exact hg.refl h aO
 |o::l,ae,J,n,aA,aJ,e,aO,h,C3=>by
  simp only[w8,HM.go]at e;split at e
  ·rename_i T t r dB;simp only[HM.go]at e;have bu:o<J.length:=gM (by rw[dB];rfl);have bO: ∀i,aF (b8 J o (.box T t (r.ren ρ))) i=if i=o then .box T t (r.ren ρ) else aF J i:=λi=>gL J o _ i (Nat.le_of_lt bu)
   have m7: ∀i,(aF (b8 J o (.box T t (r.ren ρ))) i).owns=(aF J i).owns:=λi=>by
    rw[bO];split
    ·rename_i e;subst e;rw[dB];rfl
    ·rfl
   have e2: ∀i,(aF (b8 J o (.box T t (r.ren ρ))) i).live=(aF J i).live:=λi=>by
    rw[bO];split
    ·rename_i e;subst e;rw[dB];rfl
    ·rfl
   have fr: ∀i∈r.ids,(aF J i).live=true:=λi E=>h.idsB o T t r dB i E
   have ek:cg φ ι w (b8 J o (.box T t (r.ren ρ))):=by
    refine h.update (λi=>i=o) (λi E=>by rw[bO,if_neg E]) (λ_ _=>rfl) (λi E=>by rw[e2];exact E) (λi E=> ?_) (λi E j ak=> ?_) (λ_ _ _ _ _=>rfl) (λ_ _ _=>rfl) (λi j bX _ q G ab aE=> ?_)
    ·subst E;rw[bO,if_pos rfl];have al:=h.obj i;rw[dB]at al;obtain ⟨b,cur,c6,v,g1,g2,g3,g4,g5,g6,g7,g8,g9⟩:=al;exact ⟨b,cur,c6,v,g1,g2,g3,g4,g5,K.ren_rel ρ r v (λj ak=>(C3 j (fr j ak)).1) g6,g7,by rw[K.ren_fits];exact g8,g9⟩
    ·subst E;rw[bO,if_pos rfl]at ak;have ak:j∈(r.ren ρ).ids:=ak;rw[K.ren_ids]at ak;obtain ⟨k,af,rfl⟩:=List.mem_map.1 ak;rw[e2];exact (C3 k (fr k af)).2
    ·rw[m7]at q G;exact h.apart i j bX q G ab aE
   have lA:hg φ ι w J n φ ι (b8 J o (.box T t (r.ren ρ))) n:=
    ⟨ek,⟨λ_ _ h=>h,λ_ _ _=>rfl,λ_ _ h=>.inl h,ca _,rfl,rfl,rfl,λ_ _ _=>rfl,λb ⟨i,q,G⟩=>.inr ⟨i,by rw[<-m7];exact q,G⟩⟩,⟨λ_ _=>rfl,λi E=>by rw[e2];exact E⟩,by rw[ij J o _ bu];exact aO⟩
   exact lA.trans (L4 l ae _ n _ _ e lA.top ek (λi E=>by rw[e2]at E ⊢;exact C3 i E))
  ·exact L4 l ae J n aA aJ e aO h C3
theorem abt [Env] {S:Shape} {m:Nat} {R:bR} {bb:bU} (e:(Am S m R).go J n=some (bb,aA,aJ)) (aO:n=J.length) (h:cg φ ι w J) (ar:mQ φ ι w J R jM) (hm:li m J):
  ∃av aH,cg av aH w bb.heap/\mQ av aH w bb.heap bb.regs jM/\Step φ ι w J av aH w bb.heap/\ie m ι J aH bb.heap/\li m bb.heap/\m<=bb.heap.length/\li bb.heap.length bb.heap:=by
 unfold Am at e;obtain ⟨s,H1,dm,M,V⟩:=HM.go_bind_some e;obtain ⟨fo,lA,bY,aM⟩:=JJ _ 0 s ι J n H1 dm M aO h;split at V
 ·obtain ⟨rfl,rfl,rfl⟩:=bY rfl;exact aaT V aO h ar hm
 ·obtain ⟨p,ff,ec,a1,bp⟩:=HM.go_bind_some V;obtain ⟨g1,g2,-⟩:=zn 200 _ [] [] p ff ec a1 rfl aU aU;rw[g1,g2]at bp;obtain ⟨ae,l3,n3,cI,c9⟩:=HM.go_bind_some bp;have dX:=L4 p.1 ae H1 dm l3 n3 cI lA.top lA.rel aM;have T:=lA.trans dX;have avJ:mQ φ fo w l3 (R.ren (fwd s)) jM:=by intro I r ao;rw[bR.get_ren]at ao;obtain ⟨x,al,rfl⟩:=h9.1 ao;obtain ⟨bd,a6⟩:=ar.step lA.step lA.keep I x al;refine ⟨K.ren_rel _ x _ (λi E=>(aM i (a6 i E)).1) bd,λi E=> ?_⟩;rw[K.ren_ids]at E;obtain ⟨j,ak,rfl⟩:=List.mem_map.1 E;exact dX.keep.live _ (aM j (a6 j ak)).2
  have vq:li m l3:=λo W=>T.keep.live o (hm o W)
  obtain ⟨av,aH,dF,a2,a3,a4,a5,om,An⟩:=aaT c9 T.top T.rel avJ vq;exact ⟨av,aH,dF,a2,T.step.trans a3,λo W ad=>⟨((a4 o W (vq o W)).1).trans (T.keep.iota o ad),(a4 o W (vq o W)).2⟩,a5,om,An⟩
theorem lJ [Env] {S:Shape} {m:Nat} {nt:jy} {st:bU} {a:Act} {d:S.ty.den} (e:(S.take m st).val=some d) (cn:ds φ ι w nt st a) (hm:li m st.heap):
  ∃av aH,ds av aH w nt (S.enc d) a/\Step φ ι w st.heap av aH w (S.enc d).heap/\ie m ι st.heap aH (S.enc d).heap/\m<=(S.enc d).heap.length/\li (S.enc d).heap.length (S.enc d).heap:=by
 unfold Shape.take at e;obtain ⟨⟨bb,cB,aJ,hp⟩,M,V⟩:=DT.val_bind_some e;simp only[DT.val_ofOpt]at V;have a1:=Shape.dec_enc V;obtain ⟨av,aH,bd,a6,cp,eh,gZ,ir,td⟩:=abt (jM:=nh a) (HM.go_run _ _ _ _ _ _ _ _ M) rfl cn.heap cn.regs hm;rw[a1];exact ⟨av,aH,⟨bd,a6,cn.nt,cn.small,cn.defers.step cp⟩,cp,eh,ir,td⟩
end
open Go.RowKit
def hx (nt:Nat):Code->Bool
 | .region _ ops _=>ops.toList.all (pO nt)
 | .seq a b=>hx nt a&&hx nt b
 | .cond _ a b=>hx nt a&&hx nt b
 | .block _ c=>hx nt c
 | .loop c=>hx nt c
 | .scope c=>hx nt c
 |_=>true
section
variable {P:cv} {bA:Exit->Act->bk->Prop} {a:Act} {w:bk}
variable {F:Fence} {n:Nat}
theorem zh {c:Code} {b:Frame} {k:List Item} {cs:List Frame}:step P (lone (b.atR a (.code (.scope c)::k)) cs w)=.next (lone (b.atR a (.code c:: .inScope c::k)) cs w):=
 step_lone_go (by simp[stepG,stepG.exec,Frame.atR])
theorem apB {c:Code} {b:Frame} {k:List Item} {cs:List Frame}:step P (lone (b.atR a (.inScope c::k)) cs w)=.next (lone (b.atR a k) cs w):=
 step_lone_go (by simp[stepG,stepG.exec,Frame.atR])
def ak6 (bA:Exit->Act->bk->Prop):Exit->Act->bk->Prop
 | .goto _,_,_=>False
 |e,a,w=>bA e a w
theorem aba {c:Code} (h:c.wpIn F n P (ak6 bA) a w):(Code.scope c).wpIn F n P bA a w:=by
 intro b k cs cq L ar;have bY:(lone (b.atR a (.code (.scope c)::k)) cs w).fenced P F:=fenced_calm L ar rfl;obtain ⟨e,BA,Ej,aN,hS⟩:=h b (.inScope c::k) cs cq L ar;cases e with
 |normal=>exact ⟨.normal,BA,Ej,aN,.head bY zh (StepsIn.trans hS (.one (fenced_calm L ar rfl) apB))⟩
 |exit id=>
  have al:exitTo id (.inScope c::k)=exitTo id k:=by simp[exitTo]
  exact ⟨.exit id,BA,Ej,aN,λeB af=>.head bY zh (hS.1 eB (by rw[al];exact af)),
   λrb af=>let ⟨k₁,q,G⟩:=hS.2 rb (by rw[al];exact af);⟨k₁,q,.head bY zh G⟩⟩
 |goto l=>exact aN.elim
 |ret=>exact ⟨_,BA,Ej,aN,.of_steps (.one bY zh) hS⟩
 |panic mc=>exact ⟨_,BA,Ej,aN,.of_steps (.one bY zh) hS⟩
 |outgrown=>exact ⟨_,BA,Ej,aN,.of_steps (.one bY zh) hS⟩
end
def kZ:ef->Exit
 | .nrm=>.normal | .exit i=>.exit i | .ret=>.ret
section
variable {P:cv} {cx:cj} {Γ:hM} {φ:bL} {ι:Nat->az} {w:bk} {nt:jy} {st bb:bU} {a:Act} {ops:Array Oper}
theorem arA (J:List aG) (k i:Nat):aF (J++List.replicate k .hole) i=aF J i:=by
 unfold aF;simp only[jN];rcases Nat.lt_or_ge i J.length with h |h
 ·rw[List.getElem?_append_left h]
 ·rw[List.getElem?_append_right h,List.getElem?_eq_none h];rcases Nat.lt_or_ge (i-J.length) k with G |G
  ·simp[List.getElem?_replicate,G]
  ·simp[List.getElem?_replicate,Nat.not_lt.2 G]
theorem ara [Env] (tab:cN P cx) (c7:cc P Γ) (hm:P.follows .mixedOrders=true) {draw:Bool} {id:Nat} {bA:Exit->Act->bk->Prop} (e:(OY cx Γ ops draw st).val=some bb) (d:ds φ ι w nt st a) (ao:ops.toList.all (pO nt.n)=true) (jT:ops.toList.any u1=true->nt.df)
  (k: ∀bs aq av aH,ds av aH aq nt bb bs->Step φ ι w st.heap av aH aq bb.heap->eo ι st.heap aH bb.heap->bA .normal bs aq):(Code.region id ops draw).wpIn (e9 nt.ro) 0 P bA a w:=by
 unfold OY at e;cases draw
 ·simp only[ay]at e;exact wpIn_region_list (Kr tab c7 ops.toList st bb φ ι w a e d ao jT k)
 ·simp only[an]at e;obtain ⟨⟨dL,Q⟩,M,V⟩:=DT.val_bind_some e;clear e;simp only at V;cases L:uJ (kz ops.toList) 0 Q&&xc 0 ops.toList
  ·simp[L,DT.val]at V
  ·simp only[L,an,DT.val,bJ]at V;subst V;simp only[bQ]at L;obtain ⟨bw,bS,dD,du⟩:=aay (ax:=st.heap.length+slotsOf*ops.size) ops.toList 0 _ dL [] Q M rfl (λk=>aU) aU;have pY: ∀x y,x<y->y<ops.size->((kz ops.toList).getD y 0).testBit x=true\/G8 ops (qH Q) x y:=by
    intro x y s9 bt;have hlen:Q.length=ops.size:=by rw[bw];simp
    have CW:x<Q.length:=u;have CY:y<Q.length:=u;have ex:Q[x]? =some Q[x]:=hr CW;have Qb:Q[y]? =some Q[y]:=hr CY;rcases abE Q 0 L.1 x y _ _ s9 ex Qb with h |h
    ·left;simpa using h
    ·right;simp only[nn.apart,bQ]at h;obtain ⟨⟨⟨⟨⟨⟨⟨q,G⟩,ab⟩,aE⟩,bf⟩,bF⟩,dU⟩,hh⟩:=h;have Cc:qH Q x=Q[x].fp:=by simp[qH,ex]
     have Cd:qH Q y=Q[y].fp:=by simp[qH,Qb]
     refine ⟨λawR awS avD avE=> ?_,?_,?_,?_,?_,?_⟩
     ·have nx:=dD x awR _ (by simpa using avD) (by rw[Nat.zero_add];exact ex);have SC:=dD y awS _ (by simpa using avE) (by rw[Nat.zero_add];exact Qb);rw[nx.1,SC.2]at q;rw[nx.1,SC.1]at G;rw[nx.2,SC.1]at ab;refine ⟨λI ao=>⟨tU q I (by simp[ao]),λld=> ?_⟩,λI ao hu=> ?_⟩
      ·exact tU G I (by simp[ao]) (by simp[ld])
      ·exact tU ab I hu (by simp[ao])
     ·rw[Cc,Cd];exact tU bF
     ·rw[Cc,Cd];exact tU aE
     ·rw[Cc,Cd];exact tU bf
     ·rw[Cc,Cd];intro o W iE;exact tU dU o iE W
     ·rw[Cc,Cd];intro o W iE;exact tU hh o iE W
   have bO:=arA st.heap (slotsOf*ops.size);have ek:cg φ ι {w with drawn:=w.drawn+1} (st.heap++List.replicate (slotsOf*ops.size) .hole):=
    d.heap.update (λ_=>False) (λi _=>bO i) (λ_ _=>rfl) (λi h=>by rw[bO];exact h) (λ_ h=>h.elim) (λ_ h=>h.elim) (λ_ _ _ _ _=>rfl) (λ_ _ _=>rfl) (λ_ _ _ h=>h.elim)
   have gQ:Step φ ι w st.heap φ ι {w with drawn:=w.drawn+1} (st.heap++List.replicate (slotsOf*ops.size) .hole):=
    ⟨λ_ _ h=>h,λ_ _ _=>rfl,λ_ _ h=>.inl h,ca _,rfl,rfl,rfl,λ_ _ _=>rfl,λb ⟨i,q,G⟩=>.inr ⟨i,by rw[<-bO];exact q,G⟩⟩
   have lu:ds φ ι {w with drawn:=w.drawn+1} nt ⟨st.regs,st.heap++List.replicate (slotsOf*ops.size) .hole⟩ a:=
    ⟨ek,λI r ar=>⟨K.rel_mono (φ:=φ) (ι:=ι) (w:=w) (aq:={w with drawn:=w.drawn+1}) (λ_ _ h=>h) (λ_ _ _=>rfl) r _ (λ_ _=>rfl) (d.regs I r ar).1,λi E=>by simp only[bO];exact (d.regs I r ar).2 i E⟩,d.nt,d.small,d.defers.step gQ⟩
   have awl:eo ι st.heap ι (st.heap++List.replicate (slotsOf*ops.size) .hole):=⟨λ_ _=>rfl,λi h=>by rw[bO];exact h⟩;refine wpIn_region_any hm ?_;refine arP tab c7 (base:=st.heap.length) (ax:=st.heap.length+slotsOf*ops.size) (a7:=qH Q) ao L.2 pY (ca _) k ops.size _ (List.range' 0 ops.size) _ φ ι _ a aU List.pairwise_lt_range' aU (λi=> ?_) (λi q G=> ?_) (λi E c8 q G=> ?_) aU (by simpa using du) lu gQ awl
   ·simp only[List.mem_range'_1,Nat.zero_le,true_and,Nat.zero_add];constructor
    ·intro h;exact ⟨h,by simp[jc,h]⟩
    ·exact λh=>h.1
   ·exact absurd (by simp[List.mem_range'_1];exact q) G
   ·rw[bO,pn u];rfl
def e0:Code->Bool
 | .seq a b=>e0 a||e0 b
 | .cond _ a b=>e0 a||e0 b
 | .block _ c=>e0 c
 | .loop c=>e0 c
 | .scope c=>e0 c
 | .rangeFunc ..=>true
 |_=>false
def gA:Code->Bool
 | .region _ ops _=>ops.toList.any u1
 | .seq a b=>gA a||gA b
 | .cond _ a b=>gA a||gA b
 | .block _ c=>gA c
 | .loop c=>gA c
 | .scope c=>gA c
 |_=>false
structure iL (nt:jy) (c:Code):Prop where
 rf:e0 c=true->nt.rf
 df:gA c=true->nt.df
theorem iL.of {nt:jy} {c eD:Code} (h:iL nt c) (q:e0 eD=true->e0 c=true) (G:gA eD=true->gA c=true):iL nt eD:=⟨λx=>h.rf (q x),λx=>h.df (G x)⟩
theorem iL.fn {n b:Nat} {c:Code} (h:gA c=false):iL ⟨n,b,[],none,false⟩ c:=⟨λ_=>⟨rfl,rfl⟩,λx=>absurd (h.symm.trans x) aU⟩
theorem iL.no {nt:jy} {c:Code} (q:e0 c=false) (G:gA c=false):iL nt c:=⟨λx=>absurd (q.symm.trans x) aU,λx=>absurd (G.symm.trans x) aU⟩
theorem iL.fnD {n b:Nat} {c:Code} (h:e0 c=false):iL ⟨n,b,[],none,true⟩ c:=⟨λx=>absurd (h.symm.trans x) aU,λ_=>⟨rfl,rfl,rfl⟩⟩
def hl [Env] (P:cv) (F:bn) (n:Nat) (k:Nat) (c:Code):Prop:=
 ∀(nt:jy) (st:bU) (e:ef) (bb:bU) (φ:bL) (ι:Nat->az) (w:bk) (a:Act) (bA:Exit->Act->bk->Prop),nt.n=n->iL nt (.loop c)->(F.Λ k st).val=some (e,bb)->ds φ ι w nt st a->li F.m st.heap->
  (∀bs aq av aH,ds av aH aq nt bb bs->Step φ ι w st.heap av aH aq bb.heap->ie F.m ι st.heap aH bb.heap->bA (kZ e) bs aq)->(Code.loop c).wpIn (e9 nt.ro) 0 P bA a w
theorem aqr {ks:List Nat} {R:bR} {I:Nat} {r:K} (h:(ub ks R).get I=some r):R.get I=some r:=by
 induction R with
 |nil=>simp[ub,bR.get]at h
 |cons p l aR=>
  obtain ⟨e,x⟩:=p;simp only[ub]at h;simp only[bR.get];cases af:has ks e
  ·simp only[af,ay]at h;cases L:Nat.beq I e
   ·simpa using aR h
   ·have M:I=e:=by simpa using L
    subst M;exfalso;have: ∀l:bR,(ub ks l).get I=none:=by
     intro l
     induction l with
     |nil=>rfl
     |cons p l aR=>
      obtain ⟨V,oP⟩:=p;simp only[ub];cases kv:has ks V
      ·simpa using aR
      ·simp only[an,bR.get];cases eE:Nat.beq I V
       ·simpa using aR
       ·have:I=V:=by simpa using eE
        subst this;rw[af]at kv;cases kv
    rw[this]at h;cases h
  ·simp only[af,an,bR.get]at h;cases L:Nat.beq I e
   ·simp only[L,ay]at h ⊢;exact aR h
   ·simp only[L,an]at h ⊢;exact h
theorem ZD [Env] {t:Nat->az}: ∀(R eQ:bR) (φ:bL) (J:List aG) (n:Nat) (aA:List aG) (aJ:Nat),(Bb R).go J n=some (eQ,aA,aJ)->cg φ ι w J->(∀s∈R,s.2.rel φ ι w (t s.1)/\ ∀i∈s.2.ids,(aF J i).live=true)->
  aJ=n/\ ∃av,fe φ ι w J av aA/\ ∀s∈eQ,s.2.rel av ι w (t s.1)/\ ∀i∈s.2.ids,(aF aA i).live=true
 |[],eQ,φ,J,n,aA,aJ,e,h,aN=>by simp only[Bb]at e;obtain ⟨rfl,rfl,rfl⟩:=go_ret e;exact ⟨rfl,φ,fe.refl h,aU⟩
 |(I,r)::l,eQ,φ,J,n,aA,aJ,e,h,aN=>by
  simp only[Bb]at e;obtain ⟨ag,H1,dm,M,e⟩:=HM.go_bind_some e;obtain ⟨dy,ff,ec,V,e⟩:=HM.go_bind_some e;obtain ⟨rfl,rfl,rfl⟩:=go_ret e;obtain ⟨bY,atW⟩:=aN (I,r) aU;obtain ⟨rfl,dE,g1,CP,vp⟩:=aat M h bY atW;obtain ⟨rfl,ee,g2,p7⟩:=ZD l dy dE H1 _ _ _ V g1.rel (λs hV=>by obtain ⟨bd,a6⟩:=aN s (by simp[hV]);exact ⟨K.rel_mono g1.step.phi g1.step.cells s.2 _ (λ_ _=>rfl) bd,λi E=>by rw[g1.live];exact a6 i E⟩)
  refine ⟨rfl,ee,g1.trans g2,λs hV=> ?_⟩;rcases e7.1 hV with rfl |hV
  ·exact ⟨K.rel_mono g2.step.phi g2.step.cells ag _ (λ_ _=>rfl) CP,λi E=>by rw[g2.live];exact vp i E⟩
  ·exact p7 s hV
theorem bR.get_mem {R:bR} {I:Nat} {r:K} (h:R.get I=some r):(I,r)∈R:=by
 induction R with
 |nil=>simp[bR.get]at h
 |cons p l aR=>
  obtain ⟨e,x⟩:=p;simp only[bR.get]at h;cases L:Nat.beq I e
  ·simp only[L,ay]at h;exact gU _ (aR h)
  ·simp only[L,an,bJ]at h;have:I=e:=by simpa using L
   subst this h;simp
theorem Et {R:bR}: ∀(us:List Nat) (s:Nat×K),s∈uH R us->R.get s.1=some s.2/\s.1≠dJ
 |[],s,h=>by simp[uH]at h
 |I::us,s,h=>by
  simp only[uH]at h;cases L:has us I||Nat.beq I dJ
  ·simp only[L,ay]at h;split at h
   ·rename_i r ar;rcases e7.1 h with rfl |h
    ·exact ⟨ar,λe=>by have e:I=dJ:=e;simp only[Bool.or_eq_false_iff]at L;rw[e,Nat.beq_refl dJ]at L;cases L.2⟩
    ·exact Et us s h
   ·exact Et us s h
  ·simp only[L,an]at h;exact Et us s h
theorem aaQ {p:Int} {st bb:bU} {e:ef}: ∀(l:List ef),(Bm l p st).val=some (e,bb)->p=nX e/\bb=st
 |[],h=>by simp[Bm,DT.val]at h
 |x::l,h=>by
  simp only[Bm,DT.val]at h;cases L:decide (p=nX x)
  ·simp only[L,ay]at h;exact aaQ l h
  ·simp only[L,an,bJ,c0]at h;obtain ⟨rfl,rfl⟩:=h;exact ⟨of_decide_eq_true L,rfl⟩
theorem GM {e f:ef} (h:nX e=nX f):e=f:=by cases e<;>cases f<;>simp only[nX]at h<;>first |rfl |omega |(congr 1;omega)
theorem asn (e:ef):0<=nX e:=by cases e<;>simp[nX];omega
theorem jh.putObj (w:bk) (l:Nat) (o:Obj):jh w (w.putObj l o) l:=⟨rfl,rfl,rfl,by simp[World.putObj],λk af=>World.putObj_heap_other af⟩
theorem AO {l fF:Nat} {a b c I:Array az} (h:Value.func (.yield l) a b=Value.func (.yield fF) c I):l=fF:=by
 injection h with q
 injection q
theorem ake [Env] {J:List aG} (h:cg φ ι w J) {o b:Nat} {aq:bk} (W:(aF J o).owns=true) (L:dM (ι o)=some b) (g:jh w aq b) (kx: ∀k,¬φ b k):
  cg φ ι aq (b8 J o .gone)/\Step φ ι w J φ ι aq (b8 J o .gone)/\eo ι J ι (b8 J o .gone):=by
 have fs:(aF J o).live=true:=by cases dB:aF J o<;>rw[dB]at W<;>first |rfl |(cases W)
 have bu:=gM fs;have bO: ∀i,aF (b8 J o .gone) i=if i=o then .gone else aF J i:=λi=>gL J o _ i (Nat.le_of_lt bu)
 have ad: ∀i,(aF J i).live=true->(aF (b8 J o .gone) i).live=true:=λi h=>by rw[bO];split<;>first |rfl |exact h
 have C4: ∀c k,φ c k->aq.cell? ⟨c,k,none⟩=w.cell? ⟨c,k,none⟩:=λc k aw=>g.cell (λe=>kx k (e▸aw))
 refine ⟨h.update (λi=>i=o) (λi eG=>by rw[bO,if_neg eG]) (λ_ _=>rfl) ad ?_ ?_ (λi c eG jn aw=>g.blocks c ?_) C4 ?_,?_,⟨λ_ _=>rfl,ad⟩⟩
 ·rintro i rfl;rw[bO,if_pos rfl];trivial
 ·rintro i rfl j ak;rw[bO,if_pos rfl]at ak;simp[aG.ids]at ak
 ·rintro rfl;exact eG (h.apart i o c jn W aw L)
 ·rintro i j c rfl q;rw[bO,if_pos rfl]at q;cases q
 ·refine ⟨λ_ _ h=>h,C4,λ_ _ h=>.inl h,by rw[g.size];exact ca _,g.os,g.tape,g.output,λc aw aO=>g.blocks c (λe=>aO ⟨o,W,e▸L⟩),λc aw=> ?_⟩;obtain ⟨i,q,G⟩:=aw;rw[bO]at q;split at q
  ·cases q
  ·exact .inr ⟨i,q,G⟩
set_option maxHeartbeats 1000000 in
theorem ajU [Env] {F:bn} (tab:cN P F.cx) (c7:cc P F.Γ) {Y:Nat} {g:Operand} {ps:Array Tmp} {x y:Code} {us Qa:List Nat} {e:ef} {bA:Exit->Act->bk->Prop} (ye:Env.code Y=some ⟨ps.toList,x,y,nt.n⟩)
  (Rm: ∀f∈F.its,∃fn,P.funcs[f]? =some fn/\(fn.name== "runtime.NumGoroutine")=false/\fn.body.isNone=false) (h:(Lg F Y g us Qa st).val=some (e,bb)) (cq:nt.rf) (cn:ds φ ι w nt st a) (lm:li F.m st.heap)
  (c8: ∀bs aq av aH,ds av aH aq nt bb bs->Step φ ι w st.heap av aH aq bb.heap->ie F.m ι st.heap aH bb.heap->bA (kZ e) bs aq):(Code.rangeFunc g ps x y).wpIn (e9 nt.ro) 0 P bA a w:=by
 unfold Lg at h;split at h
 ·rename_i f lF bC;cases aw:has F.its f&& !jv f&&(st.regs.get dJ).isNone
  ·simp[aw,DT.val]at h
  rw[aw,an]at h;simp only[bQ,eT]at aw;obtain ⟨⟨m1,lM⟩,Cl⟩:=aw;obtain ⟨ad8,Re,Ig,Cv⟩:=Rm f (A4.1 m1);obtain ⟨⟨p,G,ec,fp⟩,ab,aE⟩:=DT.val_bind_some h;obtain ⟨Iv,gE⟩:=aaQ _ aE;subst gE;have bf:=HM.go_run _ _ _ _ _ _ _ _ ab;unfold Vi at bf;obtain ⟨jB,H1,dm,M,V⟩:=HM.go_bind_some bf;have dd:=cn.eval g;rw[bC]at dd;obtain ⟨⟨xs,aZ,auZ,vB,C0⟩,aeQ⟩:=dd;have vB:xs= #[]:=by cases xs;simpa [K.relT] using vB
  subst vB;obtain ⟨rfl,dE,g1,aer⟩:=ZD (t:=λI=>a.tmps.getD I undef) _ _ φ st.heap _ _ _ M cn.heap (λs aN=>by have:=cn.regs _ _ (Et _ s aN).1;rwa [iR (Et _ s aN).2]at this);simp only[HM.go]at V;obtain ⟨rec,p8⟩: ∃rec:FuncId->LoopState->Option Code->Loop,rec=λfn st aw9=>{state:=st,pending:=aw9,fn,tmps:=a.tmps,params:=ps,assign:=x,body:=y,defers:=w.heap.size}:=⟨_,rfl⟩
  refine wpIn_rangeFunc ?_;intro HZ aeJ;have avP:(e9 nt.ro).round=none:=cq.1;rw[avP];obtain ⟨dn,gY⟩: ∃dn,(w.alloc (.deferred (some []))).alloc (.loop (rec HZ .ready none))=dn:=⟨_,rfl⟩;have lR:dn.heap.size=w.heap.size+2:=by rw[<-gY];simp
  have auc:dn.heap[w.heap.size+1]? =some (.loop (rec HZ .ready none)):=by rw[<-gY];have:=World.alloc_heap_new (w.alloc (.deferred (some []))) (.loop (rec HZ .ready none));rwa [World.size_alloc]at this
  have at7:dn.heap[w.heap.size]? =some (.deferred (some [])):=by rw[<-gY];exact (Below.heap_alloc _ _ _ aU).trans (World.alloc_heap_new w _)
  have Ri:ic w dn:=by rw[<-gY];exact ⟨rfl,rfl,rfl,by simp;omega,λb L=>(Below.heap_alloc _ _ _ (by simp;omega)).trans (Below.heap_alloc w _ b L)⟩
  have h4:(aF H1 st.heap.length).live=false:=by rw[pn (by rw[g1.len];exact ca _)];rfl
  have Ro:st.heap.length<=H1.length:=by rw[g1.len];exact ca _
  have yg: ∀i,(aF H1 i).live=true->eg ι st.heap.length (.func (.yield (w.heap.size+1)) #[] #[]) i=ι i:=λi E=>by
   have:i≠st.heap.length:=by rintro rfl;rw[h4]at E;cases E
   simp[eg,this]
  obtain ⟨aiz,T1,T2,ay7⟩:=Bs (v:=.func (.yield (w.heap.size+1)) #[] #[]) (dg:=.loop Y jB 0) g1.rel Ro h4 Ri
   ⟨w.heap.size+1,rec HZ .ready none,_,by simp[eg],⟨ye,auc,by rw[p8],by rw[p8],by rw[p8],by rw[p8];exact cn.nt,.inl ⟨rfl,by rw[p8],by rw[p8]⟩,λs aN=>by have:=aer s aN;rw[p8];exact K.rel_mono (λ_ _ h=>h) (λb k L=>Ri.cell (kR g1.rel L)) s.2 _ (λi E=>yg i (this.2 i E)) this.1,λk af=>by have:=kR g1.rel af;omega⟩⟩
   (λi E=>by obtain ⟨s,q,G⟩:=bR.ids_mem E;exact (aer s q).2 i G) rfl (λb L=>by
    have:w.heap.size+1=b:=by simpa [dM] using L
    omega)
  obtain ⟨ae,ff,n3,a1,bp⟩:=HM.go_bind_some V;have ae1:(aF (b8 H1 st.heap.length (.loop Y jB 0)) st.heap.length).live=true:=by rw[gL H1 _ _ _ Ro,if_pos rfl];rfl
  have ed:jg (b8 H1 st.heap.length (.loop Y jB 0)) (st.heap.length+1) n3:=by
   have:(b8 H1 st.heap.length (.loop Y jB 0)).length=st.heap.length+1:=by
    have q:=tJ H1 (.loop Y jB 0)
    rwa [g1.len]at q
   rw[<-this];exact O1 _ _
  have Cn:=(jX.call lM).1 (J3 (aP:= #[.func (.yield (w.heap.size+1)) #[] #[]]++aZ) c7 a1 aiz (by
    rw[Array.toList_append];refine ⟨_,_,rfl,⟨by simp[eg],_,rfl⟩,?_⟩;refine K.relT_mono (φ:=dE) (ι:=ι) (w:=w) (λ_ _ h=>h) (λb k L=>Ri.cell (kR g1.rel L)) lF _ (λi E=>yg i (by rw[g1.live];exact aeQ i (by simp[K.ids,E]))) ?_;exact K.relT_mono g1.step.phi g1.step.cells lF _ (λ_ _=>rfl) C0) (λi E=>by
    simp only[K.idsL,K.ids,dp,gv]at E;rcases E with rfl |E
    ·exact ae1
    ·exact T2.live i (by rw[g1.live];exact aeQ i (by simp[K.ids,E]))) ed)
  have aeC:(callFunc f (#[.func (.yield (w.heap.size+1)) #[] #[]]++aZ)).run P dn=.ok (.enter f (#[.func (.yield (w.heap.size+1)) #[] #[]]++aZ)) dn:=by
   unfold callFunc;have Cw: ¬ad8.name= "runtime.NumGoroutine":=by simpa using Ig
   have Rf: ¬ad8.body=none:=by intro bY;rw[bY]at Cv;cases Cv
   simp[Re,Cw,Rf]
  have auy:=Cn.resolve_right (λ⟨v,aq,q,_⟩=>by rw[aeC]at q;injection q with q _;cases q);refine ⟨w.heap.size+1,[xB w.heap.size],dn,{target:=.fn (.func f) aZ,args:= #[.func (.yield (w.heap.size+1)) #[] #[]]},dn,f,#[.func (.yield (w.heap.size+1)) #[] #[]]++aZ,dn,?_,?_,λ_ _=>trivial,?_,(λh=>by cases h),?_⟩
  ·rw[<-gY,p8];exact run_enterLoop_outer _ _ _ _ _
  ·simp only[resolve,auZ];simp[go_sem]
  ·simp only[invoke];exact aeC
  refine Oj nt.ro ?_;refine Calls.mono auy.2 λad1 aq=> ?_
  rintro ⟨v,av,aH,rfl,bh,ba,c3,ga,c5,nz⟩;simp only[HM.go]at bp;split at bp
  ·rename_i oj wU gh dB;simp only[HM.go]at bp;obtain ⟨rfl,rfl,rfl⟩:=go_ret bp;have ae5:=bh.obj st.heap.length;rw[dB]at ae5;obtain ⟨de,pw,adR,fH,iz⟩:=ae5;have e5:aH st.heap.length=.func (.yield (w.heap.size+1)) #[] #[]:=by rw[c3.iota _ ae1];simp[eg]
   have h5:de=w.heap.size+1:=AO (fH.symm.trans e5);subst h5;have gE:pw.state≠ .busy/\(match e with | .nrm=>pw.pending=none |e=>pw.pending=some (P9 e)):=by
    rcases iz.st with ⟨bw,bS,dD⟩|⟨bw,bS⟩|⟨ei,bw,bS,dD,du⟩
    ·have:e=.nrm:=GM (Iv.symm.trans bw);subst this;exact ⟨by rw[bS];simp,dD⟩
    ·have:=asn e;omega
    ·have:e=ei:=GM (Iv.symm.trans bw);subst this;refine ⟨by rw[dD];simp,?_⟩;cases e with
     |nrm=>exact absurd rfl bS
     |ret=>exact du
     |exit i=>exact du
   have Cs:=run_endLoop (P:=P) iz.heap gE.1;obtain ⟨kj,RV⟩: ∃kj,aq.putObj (w.heap.size+1) (.loop {pw with state:=.exhausted})=kj:=⟨_,rfl⟩;rw[RV]at Cs;have afn:jh aq kj (w.heap.size+1):=by rw[<-RV];exact jh.putObj _ _ _
   have jS:dM (aH st.heap.length)=some (w.heap.size+1):=by rw[e5];rfl
   obtain ⟨aiu,TY,aiv⟩:=ake bh (o:=st.heap.length) (by rw[dB];rfl) jS afn iz.phi;have aiA:Step φ ι w st.heap dE ι w H1:=g1.step;have z7:=((aiA.trans T1).trans ba).trans TY;have KC:=((g1.keep.trans T2).trans c3).trans aiv;have ae2: ¬jY (eg ι st.heap.length (.func (.yield (w.heap.size+1)) #[] #[])) (b8 H1 st.heap.length (.loop Y jB 0)) w.heap.size:=by
    intro h;rcases T1.own _ h with q |q
    ·obtain ⟨o,bw,bS⟩:=h;rw[gL H1 _ _ _ Ro]at bw;split at bw
     ·rename_i W;subst W;have dD:some (w.heap.size+1)=some w.heap.size:=by rw[<-bS];simp[eg,dM]
      have:=eW dD;omega
     ·rename_i W;have gP:(aF H1 o).live=true:=by cases dB:aF H1 o<;>rw[dB]at bw<;>first |rfl |(cases bw)
      rw[yg o gP]at bS;have:=uE g1.rel bw bS;omega
    ·obtain ⟨o,bw,bS⟩:=q;have:=uE g1.rel bw bS;omega
   have aua:aq.heap[w.heap.size]? =some (.deferred (some [])):=(ba.blocks _ u ae2).trans at7;have aub:kj.heap[w.heap.size]? =some (.deferred (some [])):=(afn.blocks _ u).trans aua;have avv: ¬jY aH (b8 ff st.heap.length .gone) w.heap.size:=by
    intro h;have bd:=ba.size;rcases (ba.trans TY).own _ h with q |q
    ·omega
    ·exact ae2 q
   have b0:=cn.defers.1;obtain ⟨ms,dH,cV,eV⟩:=cn.defers.2 cq.2;have hmarks:Marks nt kj (jY aH (b8 ff st.heap.length .gone)) ([xB w.heap.size]++a.defers):=by
    have b1:=(cn.defers.step z7).1;refine ⟨b1,λ_=>⟨w.heap.size::ms,by simp[dH],?_,λr ar=> ?_⟩⟩
    ·rw[List.nodup_cons];refine ⟨λhm=> ?_,cV⟩;have:=(kU.1 (eV _ hm).2.1).1;omega
    ·rcases e7.1 ar with rfl |ar
     ·exact ⟨b0,aub,avv⟩
     ·obtain ⟨bd,a6,cp⟩:=eV r ar;have bu:=(kU.1 a6).1;exact ⟨bd,(z7.blocks r bu cp).trans a6,λh=>(z7.own r h).elim (λaE=>u) cp⟩
   have aiB:ds av aH kj nt ⟨st.regs,b8 ff st.heap.length .gone⟩ {a with defers:=[xB w.heap.size]++a.defers}:=
    ⟨aiu,λI r ao=>by
     have cw:I≠dJ:=λe=>by rw[e]at ao;rw[ao]at Cl;cases Cl
     have bY:=cn.regs I r ao;rw[iR cw]at bY ⊢;exact ⟨K.rel_step z7 KC bY.2 bY.1,λi E=>KC.live i (bY.2 i E)⟩,cn.nt,cn.small,hmarks⟩
   have fin:=c8 _ kj av aH aiB z7 (KC.keepM _);refine ⟨pw.pending,kj,Cs,?_⟩;have yp:=gE.2;cases e with
   |nrm=>simp only at yp;rw[yp];exact fin
   |ret=>simp only at yp;rw[yp];exact wpIn_ret fin
   |exit i=>simp only at yp;rw[yp];exact wpIn_exit fin
  ·simp[HM.go]at bp
 ·simp[DT.val]at h
theorem Oc {R:bR}: ∀(us:List Nat) (l:List K),xv R us=some l-> ∀i∈K.idsL l,∃I r,R.get I=some r/\i∈r.ids
 |[],l,h,i,E=>by simp only[xv,bJ]at h;subst h;simp[K.idsL]at E
 |I::us,l,h,i,E=>by
  simp only[xv]at h;split at h
  ·rename_i r ar;obtain ⟨m,hm,rfl⟩:=h9.1 h;simp only[K.idsL,dp]at E;rcases E with E |E
   ·exact ⟨I,r,ar,E⟩
   ·exact Oc us m hm i E
  ·cases h
theorem aqR [Env] {F:bn} {id:Nat} (e:(Lc F id st).val=some bb) (cn:ds φ ι w nt st a):ds φ ι w nt bb a/\bb.heap=st.heap:=by
 unfold Lc at e;split at e
 ·simp only[DT.val,bJ]at e;subst e;exact ⟨cn,rfl⟩
 ·split at e
  ·rename_i f us aP t fj _ _ _ A B bC e4 di;simp only[DT.val,bJ]at e;subst e;refine ⟨⟨cn.heap,λI r ao=> ?_,cn.nt,cn.small,cn.defers⟩,rfl⟩;have ao:(st.regs.put dJ (.dfr f A B t [])).get I=some r:=ao;rw[bR.get_put]at ao;by_cases mi:I=dJ
   ·subst mi;simp only[if_true,bJ]at ao;subst ao;obtain ⟨⟨xs,a8,al⟩,-⟩:=cn.regs dJ _ bC;simp only[K.relT]at al;rw[qJ]at a8 ⊢;have CW:xs= #[]:=by cases xs;simpa using al
    subst CW;refine ⟨⟨[],a8,rfl,λi x ae al=>by simp at al⟩,λi E=> ?_⟩;simp only[K.ids,dp]at E;rcases E with E |E
    ·obtain ⟨I,r,bd,a6⟩:=Oc _ _ e4 i E;exact (cn.regs I r bd).2 i a6
    ·obtain ⟨I,r,bd,a6⟩:=Oc _ _ di i E;exact (cn.regs I r bd).2 i a6
   ·simp only[mi,if_false]at ao;exact cn.regs I r ao
  ·simp[DT.val]at e
def jR [Env] (P:cv) (F:bn) (n:Nat):Code->Prop
 | .seq a b=>jR P F n a/\jR P F n b
 | .cond _ a b=>jR P F n a/\jR P F n b
 | .block _ c=>jR P F n c
 | .scope c=>jR P F n c
 | .rangeFunc g ps a b=>(∀Y,F.rfs (Jm a b)=some Y->Env.code Y=some ⟨ps.toList,a,b,n⟩)/\ ∀f∈F.its,∃fn,P.funcs[f]? =some fn/\(fn.name== "runtime.NumGoroutine")=false/\fn.body.isNone=false
 |_=>True
theorem eS [Env] {P:cv} {F:bn} {n:Nat}: ∀(c:Code),e0 c=false->jR P F n c
 | .seq a b,h=>by simp only[e0,Bool.or_eq_false_iff]at h;exact ⟨eS a h.1,eS b h.2⟩
 | .cond _ a b,h=>by simp only[e0,Bool.or_eq_false_iff]at h;exact ⟨eS a h.1,eS b h.2⟩
 | .block _ c,h=>eS c (by simpa [e0] using h)
 | .scope c,h=>eS c (by simpa [e0] using h)
 | .rangeFunc ..,h=>by simp[e0]at h
 | .loop _,_=>trivial
 | .skip,_=>trivial | .region ..,_=>trivial | .exit _,_=>trivial | .label _,_=>trivial | .goto _,_=>trivial | .ret,_=>trivial | .refuse _,_=>trivial
theorem nR [Env] {F:bn} (tab:cN P F.cx) (c7:cc P F.Γ) (hm:P.follows .mixedOrders=true): ∀(c:Code) (k:Nat) (st:bU) (e:ef) (bb:bU) (φ:bL) (ι:Nat->az) (w:bk) (a:Act) (bA:Exit->Act->bk->Prop),(gb F c k st).val=some (e,bb)->
  (∀s∈ez c k,hl P F nt.n s.1 s.2)->hx nt.n c=true->jR P F nt.n c->iL nt c->ds φ ι w nt st a->li F.m st.heap->
  (∀bs aq av aH,ds av aH aq nt bb bs->Step φ ι w st.heap av aH aq bb.heap->ie F.m ι st.heap aH bb.heap->bA (kZ e) bs aq)->c.wpIn (e9 nt.ro) 0 P bA a w:=by
 intro c
 induction c with
 |skip=>
  intro k st e bb φ ι w a bA h ad aw c1 cq cn lm c8;simp only[gb,DT.val,bJ,c0]at h;obtain ⟨rfl,rfl⟩:=h;exact wpIn_skip (c8 a w φ ι cn (Step.refl _ _ _ _) (ie.refl _ _ _))
 |region id ops draw=>
  intro k st e bb φ ι w a bA h ad aw c1 cq cn lm c8;simp only[gb]at h;obtain ⟨cd,q,G⟩:=DT.val_bind_some h;refine ara tab c7 hm q cn aw (λh=>cq.df h) λbs aq av aH cY sp bZ=> ?_
  split at G
  ·rename_i ks gD;simp only[DT.val,bJ,c0]at G;obtain ⟨rfl,rfl⟩:=G;exact c8 bs aq av aH ⟨cY.heap,λI r ao=>cY.regs I r (aqr ao),cY.nt,cY.small,cY.defers⟩ sp (bZ.keepM _)
  ·obtain ⟨dL,ab,aE⟩:=DT.val_bind_some G;simp only[DT.val,bJ,c0]at aE;obtain ⟨rfl,rfl⟩:=aE;obtain ⟨bw,bS⟩:=aqR ab cY;exact c8 bs aq av aH bw (by rw[bS];exact sp) (by rw[bS];exact bZ.keepM _)
 |seq x y jr js=>
  intro k st e bb φ ι w a bA h ad aw c1 cq cn lm c8;simp only[gb]at h;obtain ⟨⟨M,cd⟩,q,G⟩:=DT.val_bind_some h;simp only[hx,bQ]at aw;refine wpIn_seq (jr k st M cd φ ι w a _ q (λs aN=>ad s (by simp[ez,aN])) aw.1 c1.1 (cq.of (λh=>by simp[e0,h]) (λh=>by simp[gA,h])) cn lm λbs aq av aH cY sp bZ=> ?_);cases M with
  |nrm=>
   exact js k cd e bb av aH aq bs bA G (λs aN=>ad s (by simp[ez,aN])) aw.2 c1.2 (cq.of (λh=>by simp[e0,h]) (λh=>by simp[gA,h])) cY (bZ.live lm) λa2 da ee en kg pA m9=>c8 a2 da ee en kg (sp.trans pA) (bZ.trans m9)
  |exit i=>
   simp only[DT.val,bJ,c0]at G;obtain ⟨rfl,rfl⟩:=G;exact c8 bs aq av aH cY sp bZ
  |ret=>
   simp only[DT.val,bJ,c0]at G;obtain ⟨rfl,rfl⟩:=G;exact c8 bs aq av aH cY sp bZ
 |cond c x y jr js=>
  intro k st e bb φ ι w a bA h ad aw c1 cq cn lm c8;simp only[gb]at h;simp only[hx,bQ]at aw;split at h
  ·rename_i t aW;have a8:=NQ aW (cn.eval c).1;refine wpIn_cond a8 ?_;have key: ∀(gQ:bU),ds φ ι w nt gQ a->gQ.heap=st.heap->(bif t then (gb F x k gQ).val else (gb F y k gQ).val)=some (e,bb)->(if t then x else y).wpIn (e9 nt.ro) 0 P bA a w:=by
    intro gQ iI bg h;rw[<-bg]at lm c8;cases t
    ·simp only[ay]at h;simp only[Bool.false_eq_true,if_false];exact js k gQ e bb φ ι w a bA h (λs aN=>ad s (by simp[ez,aN])) aw.2 c1.2 (cq.of (λh=>by simp[e0,h]) (λh=>by simp[gA,h])) iI lm c8
    ·simp only[an]at h;simp only[if_true];exact jr k gQ e bb φ ι w a bA h (λs aN=>ad s (by simp[ez,aN])) aw.1 c1.1 (cq.of (λh=>by simp[e0,h]) (λh=>by simp[gA,h])) iI lm c8
   split at h
   ·rename_i I;have bO:st.regs.get I=some (.dat .bool t):=by
     simp only[h1]at aW;cases q5:Nat.beq I dJ with
     |true=>simp[q5,mB]at aW
     |false=>
     simp only[q5,ay]at aW;cases ao:st.regs.get I with
     |none=>rw[ao]at aW;simp[mB]at aW
     |some r=>
      rw[ao]at aW;have:=Ap (R:=st.regs) (I:=I) (b:=t) (by rw[ao];exact aW);rw[ao]at this;exact this
    have iI:ds φ ι w nt ⟨refine st.regs I t,st.heap⟩ a:=cn.regs_eq (tK bO);refine key ⟨refine st.regs I t,st.heap⟩ iI rfl ?_;cases t
    ·simp only[DT.val,ay]at h ⊢;exact h
    ·simp only[DT.val,an]at h ⊢;exact h
   ·exact key st cn rfl (by simpa only[DT.val] using h)
  ·simp[DT.val]at h
 |block id c aR=>
  intro k st e bb φ ι w a bA h ad aw c1 cq cn lm c8;simp only[gb]at h;obtain ⟨⟨M,cd⟩,q,G⟩:=DT.val_bind_some h;refine wpIn_block (aR id st M cd φ ι w a _ q (λs aN=>ad s (by simpa [ez] using aN)) aw c1 (cq.of (λh=>by simpa [e0] using h) (λh=>by simpa [gA] using h)) cn lm λbs aq av aH cY sp bZ=> ?_);cases M with
  |nrm=>
   simp only[DT.val,bJ,c0]at G;obtain ⟨rfl,rfl⟩:=G;exact c8 bs aq av aH cY sp bZ
  |exit i=>
   simp only at G;cases L:Nat.beq i id
   ·simp only[L,ay,DT.val,bJ,c0]at G;obtain ⟨rfl,rfl⟩:=G;have cw: ¬i=id:=λh=>by subst h;simp at L
    simp only[kZ,Exit.inBlock,if_neg cw];exact c8 bs aq av aH cY sp bZ
   ·simp only[L,an,DT.val,bJ,c0]at G;obtain ⟨rfl,rfl⟩:=G;have:i=id:=by simpa using L
    simp only[kZ,Exit.inBlock,if_pos this];exact c8 bs aq av aH cY sp bZ
  |ret=>
   simp only[DT.val,bJ,c0]at G;obtain ⟨rfl,rfl⟩:=G;exact c8 bs aq av aH cY sp bZ
 |scope c aR=>
  intro k st e bb φ ι w a bA h ad aw c1 cq cn lm c8;simp only[gb]at h;refine aba (aR k st e bb φ ι w a _ h (λs aN=>ad s (by simpa [ez] using aN)) aw c1 (cq.of (λh=>by simpa [e0] using h) (λh=>by simpa [gA] using h)) cn lm λbs aq av aH cY sp bZ=> ?_);have:=c8 bs aq av aH cY sp bZ;cases e<;>exact this
 |label l=>
  intro k st e bb φ ι w a bA h ad aw c1 cq cn lm c8;simp only[gb,DT.val,bJ,c0]at h;obtain ⟨rfl,rfl⟩:=h;exact wpIn_label (c8 a w φ ι cn (Step.refl _ _ _ _) (ie.refl _ _ _))
 |loop c aR=>
  intro k st e bb φ ι w a bA h ad aw c1 cq cn lm c8;simp only[gb]at h;exact ad (k,c) (by simp[ez]) nt st e bb φ ι w a bA rfl cq h cn lm c8
 |exit id=>
  intro k st e bb φ ι w a bA h ad aw c1 cq cn lm c8;simp only[gb,DT.val,bJ,c0]at h;obtain ⟨rfl,rfl⟩:=h;exact wpIn_exit (c8 a w φ ι cn (Step.refl _ _ _ _) (ie.refl _ _ _))
 |ret=>
  intro k st e bb φ ι w a bA h ad aw c1 cq cn lm c8;simp only[gb,DT.val,bJ,c0]at h;obtain ⟨rfl,rfl⟩:=h;exact wpIn_ret (c8 a w φ ι cn (Step.refl _ _ _ _) (ie.refl _ _ _))
 |rangeFunc g ps x y=>
  intro k st e bb φ ι w a bA h ad aw c1 cq cn lm c8;simp only[gb]at h;split at h
  ·rename_i Y Q1;exact ajU tab c7 (c1.1 Y Q1) c1.2 h (cq.rf rfl) cn lm c8
  ·simp[DT.val]at h
 |_=>
  intro k st e bb φ ι w a bA h;simp[gb,DT.val]at h
def bK.fin (ax:bK):ax.Out->ef×bU
 | .inl x=>(ax.x,ax.X.enc x)| .inr y=>(ax.y,ax.Y.enc y)
theorem ef.is_eq {e f:ef} (h:e.is f=true):e=f:=by cases e<;>cases f<;>simp only[ef.is,reduceCtorEq]at h<;>first |rfl |(have:=Nat.eq_of_beq_eq_true h;subst this;rfl)|cases h
theorem bK.out_sound [Env] {ax:bK} {m:Nat} {e:ef} {st:bU} {o:ax.Out} (h:(ax.out m e st).val=some o) (cn:ds φ ι w nt st a) (lm:li m st.heap):
  e=(ax.fin o).1/\ ∃av aH,ds av aH w nt (ax.fin o).2 a/\Step φ ι w st.heap av aH w (ax.fin o).2.heap/\ie m ι st.heap aH (ax.fin o).2.heap:=by
 unfold bK.out at h;cases q:e.is ax.x
 ·simp only[q,ay]at h;cases G:e.is ax.y
  ·simp[G,DT.val]at h
  ·simp only[G,an]at h;obtain ⟨y,M,V⟩:=DT.val_bind_some h;simp only[DT.val,bJ]at V;subst V;obtain ⟨av,aH,bd,a6,cp,-,-⟩:=lJ M cn lm;exact ⟨ef.is_eq G,av,aH,bd,a6,cp⟩
 ·simp only[q,an]at h;obtain ⟨x,M,V⟩:=DT.val_bind_some h;simp only[DT.val,bJ]at V;subst V;obtain ⟨av,aH,bd,a6,cp,-,-⟩:=lJ M cn lm;exact ⟨ef.is_eq q,av,aH,bd,a6,cp⟩
theorem ab0 {e:ef} {next:Act->bk->Prop} {bA:Exit->Act->bk->Prop} {a:Act} {w:bk} (he:e≠ .nrm):Exit.then next bA (kZ e) a w=bA (kZ e) a w:=by cases e<;>first |rfl |exact absurd rfl he
theorem ar1 [Env] {F:bn} (tab:cN P F.cx) (c7:cc P F.Γ) (hm:P.follows .mixedOrders=true) {ax:bK} {c:Code} {k:Nat} {n:Nat} {f:ax.S.ty.den->Option ax.Out} (nN:F.Λ k=ax.go f F.m) (dS: ∀s∈ez c k,hl P F n s.1 s.2) (aw:hx n c=true) (c1:jR P F n c)
  (aM: ∀d o,f d=some o-> ∃n,fY (λd=>(ax.body F c k d).val) n d=some o):hl P F n k c:=by
 intro nt st e bb φ ι w a bA aO cq h cn lm c8;subst aO;rw[nN]at h;unfold bK.go at h;obtain ⟨d,M,V⟩:=DT.val_bind_some h;obtain ⟨dE,fo,bd,a6,cp,eh,gZ⟩:=lJ M cn lm;obtain ⟨o,W,he⟩: ∃o,f d=some o/\(e,bb)=ax.fin o:=by
  cases j6:f d with
  |none=>simp[j6,DT.val]at V
  |some o=>
   refine ⟨o,rfl,?_⟩;cases o with
   |inl x=>simp only[j6,DT.val,bJ]at V;exact V.symm
   |inr y=>simp only[j6,DT.val,bJ]at V;exact V.symm
 obtain ⟨n,aO⟩:=aM d o W;refine wpIn_loop_rounds n ?_;have key: ∀n d φ ι w a,fY (λd=>(ax.body F c k d).val) n d=some o->ds φ ι w nt (ax.S.enc d) a->li F.m (ax.S.enc d).heap->
   (∀bs aq av aH,ds av aH aq nt (ax.fin o).2 bs->Step φ ι w (ax.S.enc d).heap av aH aq (ax.fin o).2.heap->ie F.m ι (ax.S.enc d).heap aH (ax.fin o).2.heap->bA (kZ (ax.fin o).1) bs aq)->Code.roundsIn (e9 nt.ro) 0 P c bA n a w:=by
  intro n
  induction n with
  |zero=>intro d φ ι w a h;cases h
  |succ n aR=>
   intro d φ ι w a h cn lm c8;simp only[fY]at h;rw[roundsIn_succ];cases L:(ax.body F c k d).val with
   |none=>simp[L]at h
   |some r=>
    simp only[L]at h;have h3:=L;unfold bK.body at h3;obtain ⟨⟨M,cd⟩,q,G⟩:=DT.val_bind_some h3;refine nR tab c7 hm c k _ M cd φ ι w a _ q dS aw c1 (cq.of (λh=>h) (λh=>h)) cn lm λbs aq av aH cY sp bZ=> ?_
    by_cases m3:M=.nrm
    ·subst m3;obtain ⟨t,ab,aE⟩:=DT.val_bind_some G;simp only[DT.val,bJ]at aE;subst aE;simp only at h;obtain ⟨ee,en,dH,cV,eV,lW,qe⟩:=lJ ab cY (bZ.live lm);exact aR t ee en aq bs h dH (eV.live (bZ.live lm)) λa2 da mJ mI DK SX Sr=>c8 a2 da mJ mI DK ((sp.trans cV).trans SX) ((bZ.trans eV).trans Sr)
    ·rw[ab0 m3];have bf:((ax.out F.m M cd).bind λo=>DT.leaf (Sum.inr (α:=ax.S.ty.den) o)).val=some r:=by
      cases M with
      |nrm=>exact absurd rfl m3
      |exit i=>exact G
      |ret=>exact G
     obtain ⟨jJ,ab,aE⟩:=DT.val_bind_some bf;simp only[DT.val,bJ]at aE;subst aE;simp only[bJ]at h;subst h;obtain ⟨mj,ee,en,dH,cV,eV⟩:=bK.out_sound ab cY (bZ.live lm);rw[mj];exact c8 bs aq ee en dH (sp.trans cV) (bZ.trans eV)
 have sZ:e=(ax.fin o).1/\bb=(ax.fin o).2:=by rw[<-he];exact ⟨rfl,rfl⟩
 refine key n d dE fo w a aO bd (cp.live lm) λbs aq av aH cY sp bZ=> ?_
 have:=c8 bs aq av aH;rw[sZ.1,sZ.2]at this;exact this cY (a6.trans sp) (cp.trans bZ)
end
open Go.RowKit
section
variable {P:cv} {cx:cj} {φ:bL} {ι:Nat->az} {w:bk} {J:List aG} {n:Nat} {aA:List aG} {aJ:Nat}
theorem oa {n base:Nat} {ro:Option Nat} {nm:Bool} {w:bk} {Own:Nat->Prop} (h:base<=w.heap.size):Marks ⟨n,base,[],ro,nm⟩ w Own []:=⟨h,λ_=>⟨[],rfl,List.nodup_nil,aU⟩⟩
theorem xq {f:FuncId} {fn:Func} {c:Code} {args:Array az} {w:bk} {R:Ending->bk->Prop} (aM:P.funcs[f]? =some fn) (L:fn.body=some c)
  (h:c.wpIn (e9 none) 0 P (bodyPostM (e9 none) 0 P fn R) {tmps:=args++Array.replicate (fn.ntmps-args.size) undef,defers:=[]} w):Calls P f args w R:=
 (callsIn_wide (n:=0)).1 (callsIn_of_wp_marks aM L trivial h rfl)
structure Fh [Env] (φ:bL) (ι:Nat->az) (w:bk) (st:bU) (a:Act):Prop where
 heap:cg φ ι w st.heap
 regs: ∀I r,I≠dJ->st.regs.get I=some r->r.rel φ ι w (a.tmps.getD I undef)/\ ∀i∈r.ids,(aF st.heap i).live=true
theorem ds.rr [Env] {nt:jy} {st:bU} {a:Act} (d:ds φ ι w nt st a):Fh φ ι w st a:=⟨d.heap,λI r cw h=>by have:=d.regs I r h;rwa [iR cw]at this⟩
theorem Ew [Env] {fn:Func} {e:ef} {R:Ending->bk->Prop} {n:Nat} {av:bL} {aH:Nat->az} {aq:bk} {cd:bU} {bs:Act} (he:e=.nrm\/e=.ret) (cn:ds av aH aq ⟨n,w.heap.size,[],none,false⟩ cd bs) (sp:Step φ ι w J av aH aq cd.heap)
  (og: ∀da,Fh av aH da cd bs->Step φ ι w J av aH da cd.heap-> ∃v,(results fn bs.tmps).run P da=.ok v da/\R (.returned v) da):bodyPostM (e9 none) 0 P fn R (kZ e) bs aq:=by
 have key: ∀(ms:List Nat) (aq:bk),Fh av aH aq cd bs->Step φ ι w J av aH aq cd.heap->ms.Nodup->(∀r∈ms,w.heap.size<=r/\aq.heap[r]? =some (.deferred (some []))/\ ¬jY aH cd.heap r)->
   LeavesInM (e9 none) 0 P fn bs.tmps R (ms.map xB) .returning aq:=by
  intro ms
  induction ms with
  |nil=>intro aq cn sp _ _;exact og aq cn sp
  |cons r ms aR=>
   intro aq cn sp aO ar;obtain ⟨bd,a6,cp⟩:=ar r aU;refine ⟨aU,.inl ⟨r,aq.putObj r (.deferred none),rfl,run_takeDeferred a6,aR _ ?_ ?_ (List.nodup_cons.1 aO).2 λd ah=> ?_⟩⟩
   ·have cw: ∀b k,av b k->b≠r:=by rintro b k L rfl;obtain ⟨v,a8⟩:=cn.heap.phi b k L;simp[World.cell?,a6]at a8
    have fX: ∀b k,av b k->(aq.putObj r (.deferred none)).cell? ⟨b,k,none⟩=aq.cell? ⟨b,k,none⟩:=λb k L=>(jh.putObj aq r _).cell (cw b k L)
    refine ⟨cn.heap.update (λ_=>False) (λ_ _=>rfl) (λ_ _=>rfl) (λ_ h=>h) (λ_ h=>h.elim) (λ_ h=>h.elim) (λi b _ W L=>World.putObj_heap_other (λe=>cp ⟨i,W,e▸L⟩)) fX (λ_ _ _ h=>h.elim),λI x cw ao=> ?_⟩;exact ⟨K.rel_mono (λ_ _ h=>h) fX x _ (λ_ _=>rfl) (cn.regs I x cw ao).1,(cn.regs I x cw ao).2⟩
   ·have cw: ∀b k,av b k->b≠r:=by rintro b k L rfl;obtain ⟨v,a8⟩:=cn.heap.phi b k L;simp[World.cell?,a6]at a8
    exact ⟨sp.phi,λb k L=>((jh.putObj aq r _).cell (cw b k (sp.phi b k L))).trans (sp.cells b k L),sp.newphi,by simpa [World.putObj] using sp.size,sp.os,sp.tape,sp.output,λb L W=>(World.putObj_heap_other u).trans (sp.blocks b L W),sp.own⟩
   ·obtain ⟨bw,bS,dD⟩:=ar d (by simp[ah]);have avU:d≠r:=by rintro rfl;exact (List.nodup_cons.1 aO).1 ah
    exact ⟨bw,(World.putObj_heap_other avU).trans bS,dD⟩
 have b0:=cn.defers.1;obtain ⟨ms,dH,cV,eV⟩:=cn.defers.2 rfl;have dH:bs.defers=ms.map xB:=by simpa using dH
 have bY:LeavesInM (e9 none) 0 P fn bs.tmps R bs.defers .returning aq:=by rw[dH];exact key ms aq cn.rr sp cV eV
 rcases he with rfl |rfl
 ·exact bY
 ·exact bY
def xw (a:Act):ResultVar->Sem az
 | .tmp t=>pure (a.tmps.getD t undef)
 | .cell c t=>do loadVar t (<-asAddr (a.tmps.getD c undef))
theorem wi [Env] (tab:cN P cx) {R:bR} {a:Act}: ∀(l:List ResultVar) (j:Nat) (eQ:bR) (J:List aG) (n:Nat) (aA:List aG) (aJ:Nat),(l1 cx R j l).go J n=some (eQ,aA,aJ)->cg φ ι w J->(∀I r,I≠dJ->R.get I=some r->r.rel φ ι w (a.tmps.getD I undef)/\ ∀i∈r.ids,(aF J i).live=true)->
  aA=J/\aJ=n/\ ∃aP:List az,(l.mapM (xw a)).run P w=.ok aP w/\aP.length=l.length/\eQ.map (·.1)=List.range' j l.length/\
   ∀(i:Nat) (x:Nat×K),eQ[i]? =some x-> ∃v,aP[i]? =some v/\x.2.rel φ ι w v/\ ∀k∈x.2.ids,(aF J k).live=true
 |[],j,eQ,J,n,aA,aJ,e,h,ar=>by simp only[l1]at e;obtain ⟨rfl,rfl,rfl⟩:=go_ret e;exact ⟨rfl,rfl,[],aU,rfl,rfl,λi x al=>by simp at al⟩
 |v::l,j,eQ,J,n,aA,aJ,e,h,ar=>by
  simp only[l1]at e;obtain ⟨r,H1,dm,M,V⟩:=HM.go_bind_some e;obtain ⟨fF,ff,ec,a1,bp⟩:=HM.go_bind_some V;obtain ⟨rfl,rfl,rfl⟩:=go_ret bp;have RF: ∀t,(h1 R (.tmp t)).rel φ ι w (a.tmps.getD t undef)/\ ∀i∈(h1 R (.tmp t)).ids,(aF J i).live=true:=by
   intro t;simp only[h1];cases L:Nat.beq t dJ with
   |true=>exact ⟨trivial,by simp[K.ids]⟩
   |false=>
    simp only[ay];cases aW:R.get t with
    |none=>exact ⟨trivial,by simp[K.ids]⟩
    |some x=>exact ar t x (λe=>by subst e;simp at L) aW
  have s:H1=J/\dm=n/\ ∃ae,(xw a v).run P w=.ok ae w/\r.rel φ ι w ae/\ ∀i∈r.ids,(aF J i).live=true:=by
   cases v with
   |tmp t=>
    obtain ⟨rfl,rfl,rfl⟩:=go_ret M;exact ⟨rfl,rfl,_,by simp[xw],(RF t).1,(RF t).2⟩
   |cell c t=>
    obtain ⟨bw,bS,ae,-,dD,du,gq⟩:=Z8 tab M h (RF c).1;exact ⟨bw,bS,ae,dD,du,gq⟩
  obtain ⟨bw,bS,ae,hu,RI,avm⟩:=s;subst bw bS;obtain ⟨bw,bS,us,mx,hlen,Ij,gd⟩:=wi tab l (j+1) fF H1 dm _ _ a1 h ar;refine ⟨bw,bS,ae::us,?_,by simp[hlen],by simp[Ij,List.range'_succ],λi x al=> ?_⟩
  ·rw[List.mapM_cons];simp only[Sem.run_bind,hu,Result.andThen_ok,mx,Sem.run_pure]
  ·cases i with
   |zero=>
    obtain rfl:(j,r)=x:=by simpa using al
    exact ⟨ae,rfl,RI,avm⟩
   |succ i=>
    obtain ⟨v,q,G⟩:=gd i x (by simpa using al);exact ⟨v,by simpa using q,G⟩
theorem wj {fn:Func} {a:Act} {aP:List az} (h:(fn.results.toList.mapM (xw a)).run P w=.ok aP w):(results fn a.tmps).run P w=.ok (if h:aP.toArray.size=1 then aP.toArray[0] else .tuple aP.toArray) w:=by
 have hm:(fn.results.mapM (xw a)).run P w=.ok aP.toArray w:=by rw[Array.mapM_eq_mapM_toList];rw[<-bind_pure_comp];simp only[Sem.run_bind,h,Result.andThen_ok,Sem.run_pure]
 have he:results fn a.tmps=(do let aP<-fn.results.mapM (xw a);pure (if h:aP.size=1 then aP[0] else .tuple aP)):=rfl;rw[he];simp only[Sem.run_bind,hm,Result.andThen_ok,Sem.run_pure]
theorem ada: ∀(R:bR) (i k:Nat) (x:Nat×K),R.map (·.1)=List.range' i R.length->R[k]? =some x->x.1=i+k/\R.get (i+k)=some x.2
 |[],i,k,x,af,al=>by simp at al
 |(I,r)::R,i,k,x,af,al=>by
  simp only[List.map_cons,iy,List.range'_succ,List.cons.injEq]at af;obtain ⟨rfl,af⟩:=af;cases k with
  |zero=>
   obtain rfl:(I,r)=x:=by simpa using al
   refine ⟨rfl,?_⟩;simp[bR.get]
  |succ k=>
   have aR:=ada R (I+1) k x af (by simpa using al);refine ⟨u,?_⟩;have:Nat.beq (I+(k+1)) I=false:=xp u;simp only[bR.get,this,ay];rw[show I+(k+1)=I+1+k by omega];exact aR.2
theorem nf: ∀(R:bR) (i I:Nat) (r:K),R.map (·.1)=List.range' i R.length->R.get I=some r-> ∃k,I=i+k/\R[k]? =some (I,r)
 |[],i,I,r,af,al=>by simp[bR.get]at al
 |(e,x)::R,i,I,r,af,al=>by
  simp only[List.map_cons,iy,List.range'_succ,List.cons.injEq]at af;obtain ⟨rfl,af⟩:=af;simp only[bR.get]at al;cases L:Nat.beq I e
  ·simp only[L,ay]at al;obtain ⟨k,q,G⟩:=nf R (e+1) I r af al;exact ⟨k+1,u,by simpa using G⟩
  ·simp only[L,an,bJ]at al;have:I=e:=by simpa using L
   subst this al;exact ⟨0,rfl,rfl⟩
theorem w5 {R:bR} {a:Act} (af:R.map (·.1)=List.range' 0 R.length) (ah:R.length<=dJ) (h: ∀I r,R.get I=some r->r.rel φ ι w (nh a I)/\ ∀i∈r.ids,(aF J i).live=true):mQ φ ι w J R (λI=>a.tmps.getD I undef):=λI r ao=>by
 obtain ⟨k,q,G⟩:=nf R 0 I r af ao;have bu:=(iK.1 G).1;have:=h I r ao
 rwa [iR u]at this
theorem aa0: ∀(l:List K) (aP:List az),l.length=aP.length->(∀(i:Nat) x v,l[i]? =some x->aP[i]? =some v->x.rel φ ι w v)->K.relT φ ι w l aP
 |[],[],_,_=>rfl
 |[],_::_,h,_=>by simp at h
 |_::_,[],h,_=>by simp at h
 |x::l,v::aP,h,k=>⟨v,aP,rfl,k 0 x v rfl rfl,aa0 l aP (by simpa using h) λi y ae q G=>k (i+1) y ae (by simpa using q) (by simpa using G)⟩
theorem ajX {l:List K} {v:az} (h: ∃aP,v=.tuple aP/\K.relT φ ι w l aP.toList):(K.tup l).rel φ ι w v:=h
theorem ac6: ∀(l:List K) (p:Nat->Prop),(∀x∈l,∀i∈x.ids,p i)-> ∀i∈K.idsL l,p i
 |[],p,_,i,E=>by simp[K.idsL]at E
 |x::l,p,h,i,E=>by
  simp only[K.idsL,dp]at E;rcases E with E |E
  ·exact h x aU i E
  ·exact ac6 l p (λy bt=>h y (by simp[bt])) i E
theorem uO {R:bR} {aP:Array az} (af:R.map (·.1)=List.range' 0 R.length) (hlen:R.length=aP.size) (ar:mQ φ ι w J R (λI=>aP.getD I undef)):
  (ki R).rel φ ι w (if h:aP.size=1 then aP[0] else .tuple aP)/\ ∀i∈(ki R).ids,(aF J i).live=true:=by
 have gd: ∀(i:Nat) x,R[i]? =some x->R.get i=some x.2:=λi x al=>by have:=(ada R 0 i x af al).2;simpa using this
 unfold ki;split
 ·rename_i I r;have q:aP.size=1:=by simpa using hlen.symm
  have G:r.rel φ ι w (aP.getD 0 undef)/\ ∀i∈r.ids,(aF J i).live=true:=ar 0 r (gd 0 (I,r) rfl);rw[dif_pos q];have:aP.getD 0 undef=aP[0]:=by simp[jc,q]
  rw[this]at G;exact G
 ·rename_i cw;have q: ¬aP.size=1:=by
   intro h;rw[h]at hlen
   match R,hlen with
   |[(I,r)],_=>exact cw I r rfl
  rw[dif_neg q];refine ⟨ajX ⟨aP,rfl,aa0 _ _ (by simp[hlen]) λi x v al a8=> ?_⟩,?_⟩
  ·simp only[List.getElem?_map,h9]at al;obtain ⟨y,bt,rfl⟩:=al;have G:y.2.rel φ ι w (aP.getD i undef):=(ar i y.2 (gd i y bt)).1;have:aP.getD i undef=v:=by
    have fb:aP[i]? =some v:=by simpa using a8
    simp[jc,fb]
   rwa [this]at G
  ·simp only[K.ids];refine ac6 _ (λi=>(aF J i).live=true) λx al=> ?_
   obtain ⟨y,bt,rfl⟩:=List.mem_map.1 al;obtain ⟨i,E⟩:=List.mem_iff_getElem?.1 bt;exact (ar i y.2 (gd i y E)).2
theorem oH: ∀(l:List K) (i:Nat),(fU i l).map (·.1)=List.range' i l.length/\(fU i l).length=l.length/\ ∀(k:Nat) (x:Nat×K),(fU i l)[k]? =some x->l[k]? =some x.2
 |[],i=>⟨rfl,rfl,λk x h=>by simp[fU]at h⟩
 |r::l,i=>by
  obtain ⟨q,G,ab⟩:=oH l (i+1);refine ⟨by simp[fU,q,List.range'_succ],by simp[fU,G],λk x h=> ?_⟩;cases k with
  |zero=>
   obtain rfl:(i,r)=x:=by simpa [fU] using h
   rfl
  |succ k=>simpa using ab k x (by simpa [fU] using h)
theorem v7: ∀(d:List (Nat×cu)) (l rest:List eN) (R:bR),qt d l=some (R,rest)->R.map (·.1)=d.map (·.1)
 |[],l,rest,R,h=>by simp only[qt,bJ,c0]at h;obtain ⟨rfl,-⟩:=h;rfl
 |(I,d)::mC,l,rest,R,h=>by
  simp only[qt]at h;split at h
  ·rename_i x fF al;obtain ⟨p,aT,G⟩:=h9.1 h;simp only[c0]at G;obtain ⟨rfl,rfl⟩:=G;simp[v7 mC fF p.2 p.1 aT]
  ·cases h
def ny (fn:Func) (S Z:Shape):Bool:=
 (match fn.body with |some c=>hx fn.ntmps c&& !gA c&&Nat.ble fn.ntmps dJ&&Nat.ble fn.results.size dJ |none=>false)&& !(fn.name== "runtime.NumGoroutine")&&Nat.ble S.regs.length fn.ntmps&&decide (Z.regs.map (·.1)=List.range' 0 fn.results.size)
theorem zm: ∀(d:List (Nat×cu)) (R:bR) (l:List eN),jb d R=some l->R.length=d.length
 |[],[],_,_=>rfl
 |[],_::_,_,h=>by simp[jb]at h
 |_::_,[],_,h=>by simp[jb]at h
 |(I,d)::mC,(e,r)::R,l,h=>by
  simp only[jb]at h;cases L:Nat.beq I e
  ·simp[L]at h
  ·simp only[L,an]at h;split at h
   ·rename_i a aV;obtain ⟨b,L,-⟩:=h9.1 h;simp[zm mC R b L]
   ·cases h
theorem aiG [Env] {F:bn} (tab:cN P F.cx) (c7:cc P F.Γ) (hm:P.follows .mixedOrders=true) {f:FuncId} {fn:Func} {c:Code} {S Z:Shape} (aM:P.funcs[f]? =some fn) (L:fn.body=some c) (cC:ny fn S Z=true) (dS: ∀s∈ez c 0,hl P F fn.ntmps s.1 s.2) (c1:jR P F fn.ntmps c)
  {args:List K} (fk:F.m=S.objs.length) {d:S.ty.den} {z:Z.ty.den} (ah:S.dec ⟨fU 0 args,J⟩=some d) (e:(l9 F fn S Z d).val=some z):kk P f args J (ki (Z.enc z).regs) (Z.enc z).heap:=by
 have gX:=Shape.dec_enc ah;simp only[ny,L,bQ,eT,dT]at cC;obtain ⟨⟨⟨⟨⟨⟨oB,jT⟩,h6⟩,iq⟩,nH⟩,nI⟩,nJ⟩:=cC;have h6:=hc h6;have iq:=hc iq;have iQ:args.length=S.regs.length/\J.length=S.objs.length:=by
  unfold Shape.dec at ah;simp only at ah;cases aV:jb S.regs (fU 0 args) with
  |none=>simp[aV]at ah
  |some x=>
   cases L:fW S.objs J with
   |none=>simp[aV,L]at ah
   |some y=>
    refine ⟨by rw[<-zm _ _ _ aV,(oH args 0).2.1],?_⟩;have: ∀(d:List dZ) (R:List aG) (l:List eN),fW d R=some l->R.length=d.length:=by
     intro d
     induction d with
     |nil=>intro R l h;cases R<;>simp[fW]at h ⊢
     |cons a d aR=>
      intro R l h;cases R with
      |nil=>simp[fW]at h
      |cons b R=>
       simp only[fW]at h;split at h
       ·obtain ⟨b,L,-⟩:=h9.1 h;simp[aR R b L]
       ·cases h
    exact this _ _ _ L
 unfold l9 at e;rw[L]at e;simp only[Option.getD_some]at e;obtain ⟨⟨M,cd⟩,q,G⟩:=DT.val_bind_some e;have ab:M=.nrm\/M=.ret:=by
  cases M with
  |nrm=>exact .inl rfl
  |ret=>exact .inr rfl
  |exit i=>simp[DT.val]at G
 have aE:(((l1 F.cx cd.regs 0 fn.results.toList).run cd.heap cd.heap.length .none).bind λ(R,h,_,_)=>Z.take F.m ⟨R,h⟩).val=some z:=by rcases ab with rfl |rfl<;>exact G
 obtain ⟨⟨R,bf,pq,tB⟩,bF,dU⟩:=DT.val_bind_some aE;have kN:=HM.go_run _ _ _ _ _ _ _ _ bF;have kP:(Z.enc z).regs.map (·.1)=List.range' 0 fn.results.size:=by
  obtain ⟨⟨bb,bg,yP,pp⟩,bd,a6⟩:=DT.val_bind_some dU;simp only[DT.val_ofOpt]at a6;have cp:(Z.enc z).regs.map (·.1)=Z.regs.map (·.1):=by
   unfold Shape.dec at a6;cases aV:jb Z.regs bb.regs with
   |none=>simp[aV]at a6
   |some x=>
    cases L:fW Z.objs bb.heap with
    |none=>simp[aV,L]at a6
    |some y=>
     have:=rI _ _ x [] aV;rw[Shape.dec_enc (st:=bb) (by simp only[Shape.dec,aV,L]at a6 ⊢;exact a6)];exact v7 _ _ _ _ this
  rw[cp,nJ]
 refine ⟨⟨fn,aM,nH,by rw[L];rfl⟩,?_⟩
 ·intro φ ι w aP ek e2 fE fr;refine xq aM L ?_;have eL:aP.size=args.length:=by
   have: ∀(l:List K) (aP:List az),K.relT φ ι w l aP->aP.length=l.length:=by
    intro l
    induction l with
    |nil=>intro aP h;simp only[K.relT]at h;simp[h]
    |cons r l aR=>intro aP h;obtain ⟨v,m,rfl,-,h⟩:=h;simp[aR m h]
   simpa using this _ _ fE
  have ea:aP.size<=fn.ntmps:=by rw[eL,iQ.1];exact hc nI
  have lu:ds φ ι w ⟨fn.ntmps,w.heap.size,[],none,false⟩ (S.enc d) {tmps:=aP++Array.replicate (fn.ntmps-aP.size) undef,defers:=[]}:=by
   rw[gX];refine ⟨ek,λI r ao=> ?_,by simp;omega,h6,oa (ca _)⟩;obtain ⟨bd,a6,cp⟩:=oH args 0;obtain ⟨k,af,hU⟩:=nf _ 0 I r (by rw[bd,a6]) ao;have e1:I=k:=u;subst e1;have bO:=cp I (I,r) hU;simp only at bO;obtain ⟨v,a8,jq⟩:=ue fE bO;have fb:aP[I]? =some v:=by simpa using a8
   have lN:I<aP.size:=(kU.1 fb).1;have:(aP++Array.replicate (fn.ntmps-aP.size) undef).getD I undef=v:=by rw[jc,Array.getElem?_append_left lN,fb];rfl
   rw[iR u,this];exact ⟨jq,λi E=>fr i (tZ bO i E)⟩
  have pb:(S.enc d).heap=J:=by rw[gX]
  have jH:li F.m (S.enc d).heap:=by rw[pb,fk,<-iQ.2];exact λo W=>e2 o W
  refine nR tab c7 hm c 0 _ M cd φ ι w _ _ q dS oB c1 (iL.fn jT) lu jH λbs aq av aH cY sp bZ=> ?_
  rw[pb]at sp;refine Ew ab cY sp λaq cY sp=> ?_
  have lo:=bZ.live jH;obtain ⟨bw,bS,us,dD,du,gq,hy⟩:=wi tab fn.results.toList 0 R cd.heap _ bf pq kN cY.heap cY.regs;have kq:R.length=us.length:=by have:=congrArg List.length gq;simpa [du] using this
  have kg:ds av aH aq ⟨us.toArray.size,0,[],none,false⟩ ⟨R,bf⟩ {tmps:=us.toArray,defers:=[]}:=by
   rw[bw];refine ⟨cY.heap,λI r ao=> ?_,rfl,by rw[List.size_toArray,du];simpa using iq,oa (Nat.zero_le _)⟩;obtain ⟨k,af,hU⟩:=nf R 0 I r (by rw[gq];congr 1;omega) ao;have e1:I=k:=u;subst e1;obtain ⟨v,a8,jq,gP⟩:=hy I (I,r) hU;have:us.toArray.getD I undef=v:=by simp[jc,a8]
   have lN:I<us.length:=(iK.1 a8).1;have RE:fn.results.toList.length=fn.results.size:=aU;rw[iR u];simp only[this];exact ⟨jq,gP⟩
  obtain ⟨ee,en,dH,cV,eV,lW,qe⟩:=lJ dU kg (by rw[bw];exact lo);have hR:(Z.enc z).regs.length=us.toArray.size:=by have:=congrArg List.length kP;simp only[List.length_map,List.length_range']at this;rw[this];simp[du]
  obtain ⟨ag,aS⟩:=uO (aP:=us.toArray) (R:=(Z.enc z).regs) (by rw[kP];congr 1;simpa [du] using hR.symm) hR (w5 (a:={tmps:=us.toArray,defers:=[]}) (by rw[kP];congr 1;simpa [du] using hR.symm) (by rw[hR,List.size_toArray,du];simpa using iq) dH.regs);have mu:=wj dD;refine ⟨_,mu,_,ee,en,rfl,dH.heap,?_,?_,ag,aS⟩
  ·rw[bw]at cV;exact sp.trans cV
  ·rw[pb]at bZ;rw[bw]at eV;have ka:=bZ.trans eV;refine ⟨λo W=> ?_,λo W=> ?_⟩
   ·have bu:o<F.m:=by rw[fk,<-iQ.2];exact gM W
    exact (ka o bu W).1
   ·have bu:o<F.m:=by rw[fk,<-iQ.2];exact gM W
    exact (ka o bu W).2
end
open Go.RowKit
def cz [Env] (P:cv) (cT:aY):Prop:= ∀args J d z,cT.S.dec ⟨fU 0 args,J⟩=some d->cT.g d=some z->kk P cT.f args J (ki (cT.Z.enc z).regs) (cT.Z.enc z).heap
def aux [Env] (P:cv) (cT:aY):Prop:= ∀args J d z,cT.S.dec ⟨fU 0 args,J⟩=some d->cT.g d=some z->wH P cT.f args J (ki (cT.Z.enc z).regs) (cT.Z.enc z).heap
theorem cz.x [Env] {P:cv} {cT:aY} (h:cz P cT) (aM:jv cT.f=false):aux P cT:=λargs J d z q G=>(h args J d z q G).x aM
theorem Z9 [Env] {P:cv}: ∀(l:List aY),(∀cT∈l,aux P cT)->cc P (hP l)
 |[],_,f,args,J,r,aA,e=>by simp[hP,DT.val]at e
 |cT::l,ad,f,args,J,r,aA,e=>by
  have aR:=Z9 l λcT iZ=>ad cT (by simp[iZ])
  simp only[hP]at e;cases L:Nat.beq f cT.f
  ·simp only[L,ay]at e;exact aR f args J r aA e
  ·have aM:f=cT.f:=by simpa using L
   simp only[L,an]at e;split at e
   ·rename_i d ah;unfold aY.run at e;cases bC:cT.g d with
    |none=>simp[bC,DT.val]at e
    |some z=>
     simp only[bC,DT.val,bJ,c0]at e;obtain ⟨rfl,rfl⟩:=e;rw[aM];exact ad cT aU args J d z ah bC
   ·exact aR f args J r aA e
theorem atq [Env] {P:cv} {F:bn} (tab:cN P F.cx) (c7:cc P F.Γ) (hm:P.follows .mixedOrders=true) {cT:aY} {fn:Func} {c:Code} (aM:P.funcs[cT.f]? =some fn) (L:fn.body=some c) (cC:ny fn cT.S cT.Z=true) (dS: ∀s∈ez c 0,hl P F fn.ntmps s.1 s.2) (c1:jR P F fn.ntmps c)
  (fk:F.m=cT.S.objs.length) (bC: ∀d z,cT.g d=some z->(l9 F fn cT.S cT.Z d).val=some z):cz P cT:=
 λargs J d z ah bI=>aiG tab c7 hm aM L cC dS c1 fk ah (bC d z bI)
def o1:(t:aB)->t.den->List az->Bool
 | .bool,x,cs=>match cs with |[.bool b]=>b==x |_=>false
 | .int k,x,cs=>match cs with |[.int j n]=>decide (j=k)&&decide (n=x)|_=>false
 | .str,x,cs=>match cs with |[.string d]=>decide (d.data.toList=x)|_=>false
 | .opq,_,_=>false
 | .unit,_,cs=>match cs with |[]=>true |_=>false
 | .list _,x,cs=>match x,cs with |[],[.slice _ 0 _]=>true |_,_=>false
 | .pair a b,x,cs=>o1 a x.1 (cs.take a.size)&&o1 b x.2 (cs.drop a.size)
theorem FI {φ:bL} {w:bk}: ∀(t:aB) (x:t.den) (cs:List az),o1 t x cs=true->bz φ w t x cs
 | .bool,x,cs,h=>by
  unfold o1 at h;split at h
  ·rename_i b;obtain rfl:b=x:=by simpa using h
   rfl
  ·cases h
 | .int k,x,cs,h=>by
  unfold o1 at h;split at h
  ·rename_i j n;simp only[bQ,dT]at h;obtain ⟨q,G⟩:=h;obtain rfl:n=x:=G;subst q;rfl
  ·cases h
 | .str,x,cs,h=>by
  unfold o1 at h;split at h
  ·rename_i d;obtain rfl:d.data.toList=x:=of_decide_eq_true h;show [Value.string d]=[Value.string ⟨⟨d.data.toList⟩⟩];congr 1
  ·cases h
 | .opq,_,_,h=>by cases h
 | .unit,_,cs,h=>by
  unfold o1 at h;split at h
  ·rfl
  ·cases h
 | .list t,x,cs,h=>by
  have key: ∀(x:List t.den),x=[]-> ∀A c,bz φ w (.list t) x [.slice A 0 c]:=λx al A c=>by subst al;exact ⟨A,0,c,rfl,rfl,Nat.zero_le _,.inl rfl⟩
  unfold o1 at h;split at h
  ·rename_i al bt;exact key _ rfl _ _
  ·cases h
 | .pair a b,x,cs,h=>by simp only[o1,bQ]at h;exact ⟨cs.take a.size,cs.drop a.size,(List.take_append_drop _ _).symm,FI a _ _ h.1,FI b _ _ h.2⟩
def K.cells0:K->Nat
 | .agg l=>go l
 | .dat t _=>t.size
 |_=>1
where
 go:List K->Nat
  |[]=>0
  |r::l=>r.cells0+go l
def adx:K->Bool
 | .agg _=>true | .dat t _=>t.isAgg |_=>false
mutual
def iS:K->az->Bool
 | .dat t x,v=>o1 t x v.cells.toList&&(j9 v==t.isAgg)
 | .nils _ _,v=>match v with | .slice none 0 0=>true |_=>false
 | .nilI,v=>match v with | .nilIface=>true |_=>false
 | .nilF,v=>match v with | .nilFunc=>true |_=>false
 | .agg l,v=>match v with | .agg cs=>xm l cs.toList |_=>false
 |_,_=>false
def xm:List K->List az->Bool
 |[],cs=>match cs with |[]=>true |_=>false
 |r::l,cs=>(bif adx r then iS r (.agg (cs.take r.cells0).toArray)&&xm l (cs.drop r.cells0) else match cs with |v::cs=>iS r v&& !j9 v&&xm l cs |[]=>false)
end
mutual
theorem Kv {φ:bL} {ι:Nat->az} {w:bk}: ∀(r:K) (v:az),iS r v=true->r.rel φ ι w v/\r.ids=[]
 | .dat t x,v,h=>by simp only[iS,bQ,beq_iff_eq]at h;exact ⟨h2 ⟨FI t x _ h.1,h.2⟩,rfl⟩
 | .nils e t,v,h=>by
  unfold iS at h;split at h
  ·exact ⟨rfl,rfl⟩
  ·cases h
 | .agg l,v,h=>by
  unfold iS at h;split at h
  ·rename_i cs;obtain ⟨q,G⟩:=MV l cs.toList h;exact ⟨GO ⟨cs,rfl,q⟩,G⟩
  ·cases h
 | .undef,_,h=>by simp[iS]at h
 | .clip ..,_,h=>by simp[iS]at h
 | .nilv,_,h=>by simp[iS]at h
 | .own ..,_,h=>by simp[iS]at h
 | .view ..,_,h=>by simp[iS]at h
 | .ptr ..,_,h=>by simp[iS]at h
 | .fptr ..,_,h=>by simp[iS]at h
 | .tup ..,_,h=>by simp[iS]at h
 | .fn ..,_,h=>by simp[iS]at h
 | .iface ..,_,h=>by simp[iS]at h
 | .nilI,v,h=>by
  unfold iS at h;split at h
  ·exact ⟨rfl,rfl⟩
  ·cases h
 | .nilF,v,h=>by
  unfold iS at h;split at h
  ·exact ⟨rfl,rfl⟩
  ·cases h
 | .nilP,_,h=>by simp[iS]at h
 | .atl _,_,h=>by simp[iS]at h
 | .lim ..,_,h=>by simp[iS]at h
 | .yld ..,_,h=>by simp[iS]at h
 | .gp ..,_,h=>by simp[iS]at h
 | .dfr ..,_,h=>by simp[iS]at h
theorem MV {φ:bL} {ι:Nat->az} {w:bk}: ∀(l:List K) (cs:List az),xm l cs=true->K.relL φ ι w l cs/\K.idsL l=[]
 |[],cs,h=>by
  unfold xm at h;split at h
  ·exact ⟨rfl,rfl⟩
  ·cases h
 |r::l,cs,h=>by
  unfold xm at h;cases aV:adx r
  ·simp only[aV,ay]at h;split at h
   ·rename_i v adS;simp only[bQ,eT]at h;obtain ⟨q,G⟩:=Kv (φ:=φ) (ι:=ι) (w:=w) r v h.1.1;obtain ⟨ab,aE⟩:=MV (φ:=φ) (ι:=ι) (w:=w) l adS h.2;exact ⟨⟨v,adS,by rw[rG h.1.2];rfl,q,ab⟩,by simp[K.idsL,G,aE]⟩
   ·cases h
  ·simp only[aV,an,bQ]at h;obtain ⟨q,G⟩:=Kv (φ:=φ) (ι:=ι) (w:=w) r _ h.1;obtain ⟨ab,aE⟩:=MV (φ:=φ) (ι:=ι) (w:=w) l _ h.2;exact ⟨⟨_,_,(List.take_append_drop _ _).symm,q,ab⟩,by simp[K.idsL,G,aE]⟩
end
def GU (P:cv) (cx:cj) (T:bq) (i:gl):Bool:=match P.info? T with
 |some info=>Nat.beq info.size i.ty.size&&(match cx.zeroRV 20 T with
  |some r=>(match info.zero with
   |some z=>Nat.beq z.cells.size i.ty.size&&(j9 z==i.ty.isAgg)&&r.fits i.ty&&iS r z
   |none=>false)
  |none=>true)
 |none=>false
def Gt (cx:cj) (ty:aB) (f:Nat) (U:bq) (off:Nat):Bool:=Nat.beq off (ty.offs f)&&(match cx.ti U with
 |some j=>decide (ty.nth f=some j.ty)&&Nat.blt 0 j.ty.size
 |none=>false)
def AS (cx:cj) (ty:aB) (dx:Array Field):Nat->List bq->Bool
 |_,[]=>true
 |f,U::l=>(match dx[f]? with
  |some fd=>Nat.beq fd.type U&&Gt cx ty f U fd.offset
  |none=>false)&&AS cx ty dx (f+1) l
def Bc (cx:cj) (ty:aB) (e:bq) (size:Nat):Nat->List bq->Bool
 |_,[]=>true
 |f,U::l=>Nat.beq U e&&Gt cx ty f U (f*size)&&Bc cx ty e size (f+1) l
def Pr (P:cv) (e:bq) (t:aB) (bytes:Nat):Bool:=match P.info? e with
 |some dO=>Nat.beq dO.size t.size&&Nat.beq dO.bytes bytes&&Nat.blt 0 bytes&&Nat.blt 0 t.size&&(match dO.zero with
  |some z=>Nat.beq z.cells.toList.length t.size&&o1 t t.zero z.cells.toList
  |none=>false)
 |none=>false
def GF (P:cv) (cx:cj) (T:bq) (i:gl):Bool:=match i.ty with
 | .bool=>match P.underlying T with |some .bool=>true |_=>false
 | .int k=>match P.underlying T with |some (.int j)=>decide (j=k)|_=>false
 | .str=>match P.underlying T with |some .string=>true |_=>false
 | .list t=>(match P.underlying T with |some (.slice e)=>Nat.beq e i.elem |_=>false)&&Pr P i.elem t i.bytes&&(match cx.ti i.elem with
  |some ae=>decide (ae.ty=t)
  |none=>false)
 | .opq=>match P.underlying T with
  |some (.array _ _)=>false
  |some (.struct _)=>false
  |some _=>true
  |none=>false
 |ty=>bif i.arr then (match P.underlying T with
   |some (.array n e)=>Nat.beq i.fields.length n&&(match P.info? e with
    |some dO=>Bc cx ty e dO.size 0 i.fields
    |none=>false)
   |_=>false)
  else (match P.underlying T with
   |some (.struct dx)=>Nat.beq dx.size i.fields.length&&AS cx ty dx 0 i.fields
   |_=>false)
section
variable {P:cv} {cx:cj} {T:bq} {i:gl}
theorem Z7 (h:GU P cx T i=true): ∃info,P.info? T=some info/\info.size=i.ty.size/\ ∀r,cx.zeroRV 20 T=some r-> ∃z,info.zero=some z/\z.cells.size=i.ty.size/\j9 z=i.ty.isAgg/\r.fits i.ty=true/\r.ids=[]/\ ∀φ ι w,r.rel φ ι w z:=by
 unfold GU at h;split at h
 ·rename_i info CB;simp only[bQ,Nat.beq_eq]at h;refine ⟨info,CB,h.1,λr ar=> ?_⟩;have G:=h.2;rw[ar]at G;simp only at G;split at G
  ·rename_i z bI;simp only[bQ,Nat.beq_eq,beq_iff_eq]at G;exact ⟨z,bI,G.1.1.1,G.1.1.2,G.1.2,(Kv (φ:=λ_ _=>False) (ι:=λ_=>undef) (w:=default) r z G.2).2,fun φ ι w=>(Kv r z G.2).1⟩
  ·cases G
 ·cases h
theorem XJ {ty:aB} {f:Nat} {U:bq} {off:Nat} (h:Gt cx ty f U off=true):nZ P cx ty f U off:=by
 unfold Gt at h;simp only[bQ,Nat.beq_eq]at h;obtain ⟨q,G⟩:=h;split at G
 ·rename_i j ak;simp only[bQ,dT]at G;exact ⟨q,j,ak,G.1,by simpa using G.2⟩
 ·cases G
theorem XK {ty:aB} {dx:Array Field}: ∀(l:List bq) (k:Nat),AS cx ty dx k l=true-> ∀(f:Nat) U,l[f]? =some U-> ∃fd,dx[k+f]? =some fd/\fd.type=U/\nZ P cx ty (k+f) U fd.offset
 |[],k,h,f,U,jk=>by simp at jk
 |K8::l,k,h,f,U,jk=>by
  simp only[AS,bQ]at h;cases f with
  |zero=>
   obtain rfl:K8=U:=by simpa using jk
   have q:=h.1;split at q
   ·rename_i fd m4;simp only[bQ,Nat.beq_eq]at q;exact ⟨fd,m4,q.1,XJ q.2⟩
   ·cases q
  |succ f=>
   have:=XK l (k+1) h.2 f U (by simpa using jk)
   rwa [show k+1+f=k+(f+1) by omega]at this
theorem ZG {ty:aB} {e:bq} {size:Nat}: ∀(l:List bq) (k:Nat),Bc cx ty e size k l=true-> ∀(f:Nat) U,l[f]? =some U->U=e/\nZ P cx ty (k+f) U ((k+f)*size)
 |[],k,h,f,U,jk=>by simp at jk
 |K8::l,k,h,f,U,jk=>by
  simp only[Bc,bQ,Nat.beq_eq]at h;cases f with
  |zero=>
   obtain rfl:K8=U:=by simpa using jk
   exact ⟨h.1.1,XJ h.1.2⟩
  |succ f=>
   have:=ZG l (k+1) h.2 f U (by simpa using jk)
   rwa [show k+1+f=k+(f+1) by omega]at this
theorem apm {e:bq} {t:aB} {bytes:Nat} (h:Pr P e t bytes=true):sN P e t bytes:=by
 unfold Pr at h;split at h
 ·rename_i dO pa;simp only[bQ,Nat.beq_eq]at h;obtain ⟨⟨⟨⟨q,G⟩,ab⟩,aE⟩,bf⟩:=h;split at bf
  ·rename_i z bI;simp only[bQ,Nat.beq_eq]at bf;exact ⟨dO,z,pa,q,G,by simpa using ab,bI,by simpa using aE,bf.1,fun φ w=>FI _ _ _ bf.2⟩
  ·cases bf
 ·cases h
theorem ZF (h:GF P cx T i=true):k6 P cx T i:=by
 have agg: ∀ty:aB,(bif i.arr then (match P.underlying T with
   |some (.array n e)=>Nat.beq i.fields.length n&&(match P.info? e with
    |some dO=>Bc cx ty e dO.size 0 i.fields
    |none=>false)
   |_=>false)
  else (match P.underlying T with
   |some (.struct dx)=>Nat.beq dx.size i.fields.length&&AS cx ty dx 0 i.fields
   |_=>false))=true->(i.arr=false/\ ∃dx,P.underlying T=some (.struct dx)/\dx.size=i.fields.length/\ ∀(f:Nat) U,i.fields[f]? =some U-> ∃fd,dx[f]? =some fd/\fd.type=U/\nZ P cx ty f U fd.offset)\/
   (i.arr=true/\ ∃n e dO,P.underlying T=some (.array n e)/\i.fields.length=n/\P.info? e=some dO/\ ∀(f:Nat) U,i.fields[f]? =some U->U=e/\nZ P cx ty f U (f*dO.size)):=by
  intro ty h;cases aV:i.arr
  ·simp only[aV,ay]at h;split at h
   ·rename_i dx j6;simp only[bQ,Nat.beq_eq]at h;refine .inl ⟨rfl,dx,j6,h.1,λf U jk=> ?_⟩;have:=XK (P:=P) i.fields 0 h.2 f U jk;simpa using this
   ·cases h
  ·simp only[aV,an]at h;split at h
   ·rename_i n e cw;simp only[bQ,Nat.beq_eq]at h;obtain ⟨q,G⟩:=h;split at G
    ·rename_i dO pa;refine .inr ⟨rfl,n,e,dO,cw,q,pa,λf U jk=> ?_⟩;have:=ZG (P:=P) i.fields 0 G f U jk;simpa using this
    ·cases G
   ·cases h
 unfold GF at h;unfold k6;cases aW:i.ty with
 |bool=>
  simp only[aW]at h ⊢;split at h
  ·assumption
  ·cases h
 |int k=>
  simp only[aW]at h ⊢;split at h
  ·rename_i j ak;have:j=k:=of_decide_eq_true h;rw[ak,this]
  ·cases h
 |str=>
  simp only[aW]at h ⊢;split at h
  ·assumption
  ·cases h
 |list t=>
  simp only[aW,bQ]at h ⊢;obtain ⟨⟨q,G⟩,ab⟩:=h;refine ⟨?_,apm G,?_⟩
  ·split at q
   ·rename_i e he;rw[he,Nat.eq_of_beq_eq_true q]
   ·cases q
  ·split at ab
   ·rename_i ae hu;exact ⟨ae,hu,of_decide_eq_true ab⟩
   ·cases ab
 |opq=>
  simp only[aW]at h ⊢;split at h
  ·cases h
  ·cases h
  ·rename_i I q G ao;exact ⟨I,ao,λx e dx=>⟨λh=>q x e (by rw[h]),λh=>G dx (by rw[h])⟩⟩
  ·cases h
 |unit=>
  simp only[aW]at h ⊢;exact agg .unit h
 |pair x y=>
  simp only[aW]at h ⊢;exact agg (.pair x y) h
end
def GH (P:cv) (T:bq) (i:gl):Bool:= !i.nil||(match P.underlying T with |some (.interface _)=>true |_=>false)
def PO (P:cv) (T:bq) (nm:String) (f:Nat):Bool:=match P.info? T with
 |some info=>match info.methods.find? (·.name==nm) with
  |some m=>m.path.isEmpty&&(match m.func with
   |some (g,wb)=>Nat.beq g f&&(match P.underlying T with
    |some (.pointer _)=>wb
    |some _=> !wb
    |none=>false)
   |none=>false)
  |none=>false
 |none=>false
def GJ (P:cv) (T:bq) (i:gl):Bool:=i.meths.all λp=>PO P T p.1 p.2
theorem ZH {P:cv} {T:bq} {i:gl} (h:GH P T i=true):i.nil=true-> ∃ms,P.underlying T=some (.interface ms):=by
 intro aO;simp only[GH,aO,cL,Bool.false_or]at h;split at h
 ·rename_i ms s7;exact ⟨ms,s7⟩
 ·cases h
theorem aqt {P:cv} {T:bq} {nm:String} {f:Nat} (h:PO P T nm f=true):Sy P T nm f:=by
 intro v w;unfold PO at h;split at h
 ·rename_i info E;split at h
  ·rename_i m hm;simp only[bQ]at h;obtain ⟨q,G⟩:=h;split at G
   ·rename_i g wb bC;simp only[bQ,Nat.beq_eq]at G;obtain ⟨rfl,ab⟩:=G;have aT:m.path= #[]:=by simpa using q
    obtain ⟨k,af⟩: ∃k,P.types.size+Made.depth=k+1:=⟨P.types.size+Made.depth-1,by have:0<Made.depth:=fm;omega⟩
    rw[af];unfold method;simp only[typeInfo,Sem.run_bind,Sem.run_pure,Result.andThen_ok];split at ab
    ·rename_i e hu;subst ab;simp[typeInfo,E,hm,aT,follow,bC,receiverAt,run_underlying hu,Place.get]
    ·rename_i I ao hu;have:wb=false:=by simpa using ab
     subst this;cases I<;>first |(exact absurd rfl (ao _))|(simp[typeInfo,E,hm,aT,follow,bC,receiverAt,run_underlying hu,Place.get])
    ·cases ab
   ·cases G
  ·cases h
 ·cases h
theorem ZJ {P:cv} {T:bq} {i:gl} (h:GJ P T i=true): ∀nm f,vV i.meths nm=some f->Sy P T nm f:=by
 unfold GJ at h;intro nm f;generalize i.meths=l at h
 induction l with
 |nil=>intro G;simp[vV]at G
 |cons p l aR=>
  obtain ⟨n,g⟩:=p;simp only[List.all_cons,bQ]at h;intro G;simp only[vV]at G;cases L:n==nm
  ·rw[L]at G;exact aR h.2 G
  ·rw[L,an]at G;obtain rfl:=eW G;have:n=nm:=by simpa using L
   subst this;exact aqt h.1
def Pl (P:cv) (cx:cj):Bool:=cx.tab.all λp=>GU P cx p.1 p.2&&GF P cx p.1 p.2&& !p.2.cmp&&GH P p.1 p.2&&GJ P p.1 p.2
theorem ai6 {P:cv} {cx:cj} (h:Pl P cx=true):cN P cx:=by
 have dS: ∀(l:List (Nat×gl)) T i,cj.ti.go T l=some i->(T,i)∈l:=by
  intro l T i
  induction l with
  |nil=>intro h;simp[cj.ti.go]at h
  |cons p l aR=>
   obtain ⟨U,j⟩:=p;intro h;simp only[cj.ti.go]at h;cases L:Nat.beq T U
   ·simp only[L,ay]at h;exact gU _ (aR h)
   ·simp only[L,an,bJ]at h;have:T=U:=by simpa using L
    subst this h;simp
 intro T i E;have hm:=dS cx.tab T i E;unfold Pl at h;rw[fC]at h;have q:=h _ hm;simp only[bQ,eT]at q;exact ⟨Z7 q.1.1.1.1,ZF q.1.1.1.2,λaw=>(by rw[q.1.1.2]at aw;cases aw),ZH q.1.2,ZJ q.2⟩
open Go.RowKit
def Told (w:bk):bL:=λb k=> ∃v,w.cell? ⟨b,k,none⟩=some v
def aB.comps:aB->Nat
 | .pair _ b=>b.comps+1 |_=>0
def aB.good (B:aB->Nat):(t:aB)->t.den->Prop
 | .bool,_=>True
 | .int k,x=>(Lit.int k x).wf=true
 | .str,x=>x.length<=reachBytes
 | .opq,_=>False
 | .unit,_=>True
 | .list t,xs=>xs.length*B t<=reachBytes/\ ∀x∈xs,t.good B x
 | .pair a b,x=>a.good B x.1/\b.good B x.2
def aB.small (a7:Nat):(t:aB)->t.den->Prop
 | .str,x=>x.length<=a7
 | .list t,xs=>xs.length<=a7/\ ∀x∈xs,t.small a7 x
 | .pair a b,x=>a.small a7 x.1/\b.small a7 x.2
 |_,_=>True
structure Lj (J:Type) where
 U:DataW J->Nat
 A:List (DataW J)->Nat
 str: ∀d,d.length<=U (.lit (.string d))
 slice: ∀es sp,A es<=U (.slice es sp)
 agg: ∀ps,A ps<=U (.agg ps)
 mem: ∀I l,I∈l->U I<=A l
 len: ∀l,l.length<=A l
def xu (cx:cj) (B:aB->Nat):Nat->bq->Bool
 |0,_=>false
 |n+1,T=>match cx.ti T with
  |some i=>(match i.ty with
   | .bool=>true
   | .int _=>true
   | .str=>true
   | .opq=>false
   | .list t=>Nat.beq i.bytes (B t)&&xu cx B n i.elem
   |ty=>ty.chain&&Nat.beq ty.comps i.fields.length&&i.fields.all (xu cx B n))
  |none=>false
theorem aB.nth_comps: ∀(t:aB) (f:Nat) (ae:aB),t.nth f=some ae->f<t.comps
 | .pair a b,0,ae,h=>by simp[aB.comps]
 | .pair a b,f+1,ae,h=>by have:=aB.nth_comps b f ae h;simp[aB.comps];exact this
 | .bool,f,ae,h=>by cases f<;>simp[aB.nth]at h
 | .int _,f,ae,h=>by cases f<;>simp[aB.nth]at h
 | .str,f,ae,h=>by cases f<;>simp[aB.nth]at h
 | .opq,f,ae,h=>by cases f<;>simp[aB.nth]at h
 | .unit,f,ae,h=>by cases f<;>simp[aB.nth]at h
 | .list _,f,ae,h=>by cases f<;>simp[aB.nth]at h
section
variable {J:Type} {enc:bq×az->J} {P:cv} {cx:cj} {w:bk} {base:Nat} {spare:Nat->Bool} {held:Bool} {B:aB->Nat}
theorem Ol {dQ:Prop} {a7:Nat}: ∀(t:aB) (cs:List az),t.chain=true->cs.length=t.size->(∀f ae,t.nth f=some ae-> ∃y:ae.den,bz (Told w) w ae y ((cs.drop (t.offs f)).take ae.size)/\ae.good B y/\(dQ->ae.small a7 y))-> ∃y:t.den,bz (Told w) w t y cs/\t.good B y/\(dQ->t.small a7 y)
 | .unit,cs,_,ad,_=>⟨(),kV (by simpa [aB.size] using ad),trivial,λ_=>trivial⟩
 | .pair a b,cs,aw,ad,h=>by
  obtain ⟨x,al,gx,fQ⟩:=h 0 a rfl;have q7:cs.length=a.size+b.size:=ad;obtain ⟨y,bt,qY,rF⟩:=Ol b (cs.drop a.size) aw (by rw[List.length_drop];omega) λf ae hu=>by
   have:=h (f+1) ae hu;simp only[aB.offs]at this
   rwa [<-List.drop_drop]at this
  simp only[aB.offs,List.drop_zero]at al;exact ⟨(x,y),⟨_,_,(List.take_append_drop a.size cs).symm,al,bt⟩,⟨gx,qY⟩,λm=>⟨fQ m,rF m⟩⟩
 | .bool,_,h,_,_=>by cases h
 | .int _,_,h,_,_=>by cases h
 | .str,_,h,_,_=>by cases h
 | .opq,_,h,_,_=>by cases h
 | .list _,_,h,_,_=>by cases h
theorem Jz: ∀(ni:List bq) (fi:List (DataW J)) (j:Nat) (t:bq) (I:DataW J),(DataW.weightsEach P ni fi).all (· <=reachBytes)=true->ni[j]? =some t->fi[j]? =some I->(I.weights P t).all (· <=reachBytes)=true
 |[],_,j,t,I,_,aW,_=>by simp at aW
 |_::_,[],j,t,I,_,_,ao=>by simp at ao
 |ae::ni,e::fi,j,t,I,h,aW,ao=>by
  simp only[DataW.weightsEach,List.all_append,bQ]at h;cases j with
  |zero=>
   obtain rfl:ae=t:=by simpa using aW
   obtain rfl:e=I:=by simpa using ao
   exact h.1
  |succ j=>exact Jz ni fi j t I h.2 (by simpa using aW) (by simpa using ao)
theorem LZ {t:bq}: ∀(fi:List (DataW J)) (j:Nat) (I:DataW J),(DataW.weightsAll P t fi).all (· <=reachBytes)=true->fi[j]? =some I->(I.weights P t).all (· <=reachBytes)=true
 |[],j,I,_,ao=>by simp at ao
 |e::fi,j,I,h,ao=>by
  simp only[DataW.weightsAll,List.all_append,bQ]at h;cases j with
  |zero=>
   obtain rfl:e=I:=by simpa using ao
   exact h.1
  |succ j=>exact LZ fi j I h.2 (by simpa using ao)
theorem atf {a:Addr} {n:Nat} {c:List az} (h:w.cells? base a n=some c):c.length=n/\ ∀(k:Nat) (v:az),c[k]? =some v->w.cell? (a.add k)=some v:=by
 unfold World.cells? at h;split at h
 ·have key: ∀(l:List Nat) (c:List az),l.mapM (λi=>w.cell? (a.add i))=some c->c.length=l.length/\ ∀(k:Nat) (v:az) (i:Nat),c[k]? =some v->l[k]? =some i->w.cell? (a.add i)=some v:=by
   intro l
   induction l with
   |nil=>intro c h;simp at h;subst h;simp
   |cons i l aR=>
    intro c h;rw[List.mapM_cons]at h;simp only[Option.bind_eq_bind,Option.bind_eq_some_iff]at h;obtain ⟨v,a8,eD,aw,G⟩:=h;obtain rfl:v::eD=c:=by simpa using G
    obtain ⟨ab,aE⟩:=aR eD aw;refine ⟨by simp[ab],λk ae j af ak=> ?_⟩;cases k with
    |zero=>
     obtain rfl:v=ae:=by simpa using af
     obtain rfl:i=j:=by simpa using ak
     exact a8
    |succ k=>exact aE k ae j (by simpa using af) (by simpa using ak)
  obtain ⟨q,G⟩:=key _ _ h;have ad:c.length=n:=by simpa using q
  refine ⟨ad,λk v af=>G k v k af ?_⟩;have:k<n:=by rw[<-ad];exact (iK.1 af).1
  simp[this]
 ·cases h
theorem FG (tab:cN P cx) {T:bq} {i:gl} (h:cx.ti T=some i):P.cellsOf T=i.ty.size:=by obtain ⟨info,q,G,_⟩:=(tab T i h).info;simp[Program.cellsOf,q,G]
theorem F8 (tab:cN P cx) (k5:Lj J) {a7:Nat}: ∀(n:Nat) (T:bq) (i:gl) (fuel:Nat) (cs:List az) (x:DataW J×List MemPlace),xu cx B n T=true->cx.ti T=some i->DataW.trod enc P w base spare held fuel T cs=some x->(x.1.weights P T).all (· <=reachBytes)=true->
  ∃y:i.ty.den,bz (Told w) w i.ty y cs/\i.ty.good B y/\(k5.U x.1<=a7->i.ty.small a7 y)
 |0,T,i,fuel,cs,x,ar,_,_,_=>by cases ar
 |n+1,T,i,fuel,cs,x,ar,E,h,hw=>by
  have agg: ∀ty:aB,ty=i.ty->(ty=.unit\/ ∃a b,ty=.pair a b)->(ty.chain&&Nat.beq ty.comps i.fields.length&&i.fields.all (xu cx B n))=true->
    ((i.arr=false/\ ∃dx,P.underlying T=some (.struct dx)/\dx.size=i.fields.length/\ ∀(f:Nat) U,i.fields[f]? =some U-> ∃fd,dx[f]? =some fd/\fd.type=U/\nZ P cx ty f U fd.offset)\/
   (i.arr=true/\ ∃n e dO,P.underlying T=some (.array n e)/\i.fields.length=n/\P.info? e=some dO/\ ∀(f:Nat) U,i.fields[f]? =some U->U=e/\nZ P cx ty f U (f*dO.size)))-> ∃y:ty.den,bz (Told w) w ty y cs/\ty.good B y/\(k5.U x.1<=a7->ty.small a7 y):=by
   intro ty eH _ aw ao;simp only[bQ,Nat.beq_eq,fC]at aw;obtain ⟨⟨m1,lM⟩,Cl⟩:=aw;have ea:P.cellsOf T=ty.size:=by rw[FG tab E,eH]
   rcases ao with ⟨-,dx,hu,j6,aM⟩|⟨-,m,e,dO,hu,hm,pa,aM⟩
   ·obtain ⟨xs,k,rfl,rfl,ad,vB,al⟩:=DataW.trod_struct hu h;refine Ol ty cs m1 (ad.trans ea) λf ae Cx=> ?_
    have bu:=aB.nth_comps ty f ae Cx;have jk:i.fields[f]? =some i.fields[f]:=hr u;obtain ⟨fd,m4,aeM,yl,j,ak,aO,p6⟩:=aM f _ jk;rw[Cx]at aO;have RR:ae=j.ty:=by simpa using aO
    subst RR;have q:=al f fd m4;have mn:f<xs.length:=u;rw[hr mn,aeM,FG tab ak,yl]at q;obtain ⟨y,bt,qY,rF⟩:=F8 tab k5 n _ j k _ _ (Cl _ (dI _)) ak q (by
     simp only[DataW.weights,hu]at hw;refine Jz _ _ f i.fields[f] _ hw ?_ ?_
     ·simp[m4,aeM]
     ·simp[hr mn])
    exact ⟨y,bt,qY,λm=>rF (Nat.le_trans (Nat.le_trans (k5.mem _ _ (List.mem_map.2 ⟨_,dI mn,rfl⟩)) (k5.agg _)) m)⟩
   ·obtain ⟨xs,k,rfl,rfl,ad,vB,al⟩:=DataW.trod_array hu h;refine Ol ty cs m1 (ad.trans ea) λf ae Cx=> ?_
    have bu:=aB.nth_comps ty f ae Cx;have jk:i.fields[f]? =some i.fields[f]:=hr u;obtain ⟨Q0,yl,j,ak,aO,p6⟩:=aM f _ jk;rw[Cx]at aO;have RR:ae=j.ty:=by simpa using aO
    subst RR;have q:=al f u;have mn:f<xs.length:=u;have Rb:P.cellsOf e=j.ty.size:=by rw[<-Q0];exact FG tab ak
    have auN:dO.size=P.cellsOf e:=by simp[Program.cellsOf,pa]
    rw[hr mn]at q;rw[auN]at yl;rw[yl,Rb]at q;obtain ⟨y,bt,qY,rF⟩:=F8 tab k5 n e j k _ _ (by rw[<-Q0];exact Cl _ (dI _)) (by rw[<-Q0];exact ak) q (by simp only[DataW.weights,hu]at hw;exact LZ _ f _ hw (by simp[hr mn]))
    exact ⟨y,bt,qY,λm=>rF (Nat.le_trans (Nat.le_trans (k5.mem _ _ (List.mem_map.2 ⟨_,dI mn,rfl⟩)) (k5.agg _)) m)⟩
  have ao:=(tab T i E).desc;simp only[xu,E]at ar;unfold k6 at ao;cases aW:i.ty with
  |bool=>
   simp only[aW]at ao;obtain ⟨b,rfl,-⟩:=DataW.trod_bool ao h;exact ⟨b,rfl,trivial,λ_=>trivial⟩
  |int k=>
   simp only[aW]at ao;obtain ⟨b,rfl,-,av6⟩:=DataW.trod_int ao h;exact ⟨b,rfl,av6,λ_=>trivial⟩
  |str=>
   simp only[aW]at ao;obtain ⟨d,rfl,rfl,ah⟩:=DataW.trod_string ao h;refine ⟨d.data.toList,rfl,?_,λm=>Nat.le_trans (k5.str _) m⟩;have hw:(DataW.weights P T (.lit (.string d.data.toList):DataW J)).all (· <=reachBytes)=true:=hw;simp only[DataW.weights,List.all_cons,List.all_nil,Bool.and_true,dT]at hw;exact hw
  |opq=>simp only[aW]at ar;cases ar
  |unit=>
   simp only[aW]at ao ar;exact agg .unit aW.symm (.inl rfl) ar ao
  |pair a b=>
   simp only[aW]at ao ar;exact agg (.pair a b) aW.symm (.inr ⟨a,b,rfl⟩) ar ao
  |list t=>
   simp only[aW]at ao ar;obtain ⟨hu,⟨dO,z,M,V,a1,bp,cI,c9,fV,kK⟩,ae,CU,rfl⟩:=ao;simp only[bQ,Nat.beq_eq]at ar;have Rb:P.cellsOf i.elem=ae.ty.size:=FG tab CU;rcases DataW.trod_slice hu h with ⟨rfl,rfl⟩|⟨a,len,cap,oq,rest,k,rfl,rfl,rfl,L,ad,hm,hlen,gC,-⟩
   ·exact ⟨[],⟨none,0,0,rfl,rfl,ca _,.inl rfl⟩,⟨by simp[reachBytes],aU⟩,λ_=>⟨Nat.zero_le _,aU⟩⟩
   ·simp only[DataW.weights,hu,List.all_cons,List.all_append,bQ,dT,List.length_map]at hw;obtain ⟨gY,av5,afm⟩:=hw;have aut:P.bytesOf i.elem=B ae.ty:=by simp[Program.bytesOf,M,a1,ar.1]
    rw[Rb]at gC;have build: ∀m,m<=len-> ∃(aZ:List ae.ty.den) (c:List az),aZ.length=m/\c.length=m*ae.ty.size/\c2 (bz (Told w) w ae.ty) aZ c/\(∀j v,c[j]? =some v->w.cell? (a.add j)=some v)/\ ∀y∈aZ,ae.ty.good B y/\(k5.A (oq.map (·.1))<=a7->ae.ty.small a7 y):=by
     intro m
     induction m with
     |zero=>intro _;exact ⟨[],[],rfl,aU,rfl,aU,aU⟩
     |succ m aR=>
      intro CH;obtain ⟨aZ,c,q,G,ab,aE,bf⟩:=aR u;have al:=gC m u;have mn:m<oq.length:=u;rw[hr mn]at al;obtain ⟨bh,m1,al⟩:=Option.bind_eq_some_iff.1 al;obtain ⟨y,bt,qY,rF⟩:=F8 tab k5 n i.elem ae k bh _ ar.2 CU al (LZ _ m _ av5 (by simp[hr mn]));obtain ⟨g1,g2⟩:=atf m1;refine ⟨aZ++[y],c++bh,by simp[q],by simp[G,g1,Nat.add_mul],c2.append aZ [y] c bh ab ⟨bh,[],aU,bt,rfl⟩,λj v ak=> ?_,λz bI=> ?_⟩
      ·rcases Nat.lt_or_ge j c.length with h |h
       ·rw[List.getElem?_append_left h]at ak;exact aE j v ak
       ·rw[List.getElem?_append_right h]at ak;have:=g2 _ v ak;have HN:(a.add (m*ae.ty.size)).add (j-c.length)=a.add j:=by rw[Addr.add_add];congr 1;omega
        rwa [HN]at this
      ·rcases dp.1 bI with h |h
       ·exact bf z h
       ·simp at h;subst h;exact ⟨qY,λhm=>rF (Nat.le_trans (k5.mem _ _ (List.mem_map.2 ⟨_,dI mn,rfl⟩)) hm)⟩
    obtain ⟨aZ,c,q,G,ab,aE,bf⟩:=build len (ca _);refine ⟨aZ,⟨some a,len,cap,rfl,q,ad,?_⟩,⟨?_,λy bt=>(bf y bt).1⟩,λhm=> ?_⟩
    ·rcases Nat.eq_zero_or_pos len with bY |bY
     ·exact .inl bY
     ·right;have hi:0<c.length:=by rw[G];exact Nat.mul_pos bY c9
      have fX:=aE 0 c[0] (hr hi);obtain ⟨VD,aaF,abK⟩:=a;have vx:abK=none:=by
       cases abK with
       |none=>rfl
       |some d=>
        exfalso;have ah:((⟨VD,aaF,some d⟩:Addr).add 0).spot=some d:=by unfold Addr.add;split<;>simp_all
        unfold World.cell? at fX;split at fX
        ·rw[ah]at fX;simp at fX
        ·cases fX
      subst vx;refine ⟨VD,aaF,c,rfl,λj v ak=> ?_,ab⟩;have:=aE j v ak;rw[hI]at this;exact ⟨⟨v,this⟩,this⟩
    ·rw[q,<-aut];exact Nat.le_trans (gV _ u) gY
    ·have e4:=Nat.le_trans (k5.slice _ _) hm;refine ⟨?_,λy bt=>(bf y bt).2 e4⟩;have:=Nat.le_trans (k5.len (oq.map (·.1))) e4;rw[List.length_map]at this;omega
end
open Go.RowKit
section
variable {J:Type} {enc:bq×az->J} {P:cv} {cx:cj} {cP:bk} {base:Nat} {spare:Nat->Bool} {held:Bool} {B:aB->Nat}
theorem aqW (tab:cN P cx) {T:bq} {i:gl} (E:cx.ti T=some i) (cw:i.ty≠ .opq) {r:Reach} {b:Nat} {v:az} (h:Value.okWide P cP r b T v):j9 v=i.ty.isAgg:=by
 have ao:=(tab T i E).desc;unfold k6 at ao;unfold Value.okWide at h;have cell: ∀I,P.underlying T=some I->(∀dx,I≠ .struct dx)->(∀n e,I≠ .array n e)->Cell.okWide P cP r b T v->(I=.bool\/(∃k,I=.int k)\/I=.string\/ ∃e,I=.slice e)->j9 v=false:=by intro I ao _ _ aw oz;simp only[Cell.okWide,ao]at aw;rcases oz with rfl |⟨k,rfl⟩|rfl |⟨e,rfl⟩<;>cases v<;>first |rfl |(simp_all [Cell.ok,j9])
 cases aW:i.ty with
 |bool=>
  simp only[aW]at ao;simp only[ao]at h;exact cell _ ao aU aU h (.inl rfl)
 |int k=>
  simp only[aW]at ao;simp only[ao]at h;exact cell _ ao aU aU h (.inr (.inl ⟨k,rfl⟩))
 |str=>
  simp only[aW]at ao;simp only[ao]at h;exact cell _ ao aU aU h (.inr (.inr (.inl rfl)))
 |list t=>
  simp only[aW]at ao;simp only[ao.1]at h;exact cell _ ao.1 aU aU h (.inr (.inr (.inr ⟨_,rfl⟩)))
 |opq=>exact absurd aW cw
 |unit=>
  simp only[aW]at ao;rcases ao with ⟨_,dx,ao,_⟩|⟨_,n,e,dO,ao,_⟩<;> · simp only[ao]at h;obtain ⟨cs,rfl,-⟩:=h;rfl
 |pair x y=>
  simp only[aW]at ao;rcases ao with ⟨_,dx,ao,_⟩|⟨_,n,e,dO,ao,_⟩<;> · simp only[ao]at h;obtain ⟨cs,rfl,-⟩:=h;rfl
theorem ace (tab:cN P cx) (k5:Lj J) {dQ a7:Nat} {T:bq} {i:gl} (ar:xu cx B a7 T=true) (E:cx.ti T=some i) (cw:i.ty≠ .opq) {r:Reach} {b:Nat} {v:az} (cC:Value.okWide P cP r b T v) {I:DataW J} {ps:List MemPlace} (h:DataW.Trod enc P cP base spare held T v I ps)
  (hw:(I.weights P T).all (· <=reachBytes)=true): ∃y:i.ty.den,cF (Told cP) cP i.ty y v/\i.ty.good B y/\(k5.U I<=dQ->i.ty.small dQ y):=by
 obtain ⟨fuel,aM⟩:=h;obtain ⟨y,bt,qY,rF⟩:=F8 tab k5 a7 T i fuel _ _ ar E aM hw;exact ⟨y,⟨bt,aqW tab E cw cC⟩,qY,rF⟩
mutual
def pP:DataW J->Nat
 | .lit (.string bytes)=>bytes.length+1
 | .lit _=>1
 | .nil=>1
 | .ptr I=>pP I+1
 | .slice oq spare=>uG oq+uG spare+1
 | .agg parts=>uG parts+1
 | .iface _ I=>pP I+1
 | .map _=>1
 | .held _=>1
def uG:List (DataW J)->Nat
 |[]=>0
 |I::r=>pP I+uG r
end
def ado (J:Type):Lj J where
 U:=pP
 A:=uG
 str d:=by simp[pP]
 slice es sp:=by simp only[pP];omega
 agg ps:=by simp only[pP];omega
 mem I l h:=by
  induction l with
  |nil=>cases h
  |cons e l aR=>
   simp only[uG];rcases e7.1 h with rfl |h
   ·omega
   ·have:=aR h;omega
 len l:=by
  induction l with
  |nil=>simp
  |cons e l aR=>
   have:1<=pP e:=by
    cases e with
    |lit l=>cases l<;>simp[pP]
    |_=>simp[pP]
   simp only[uG,iy];omega
theorem ato [Env] (Cz: ∀g,kB (Told cP) cP g 0 ((Env.glob g).map mX)) {f:FuncId} {args:List K} {r:K} {aA:List aG} (g:kk P f args [] r aA) (fr:K.idsL args=[]) {aP:Array az} (ek:K.relT (Told cP) (λ_=>undef) cP args aP.toList):
  Calls P f aP cP λe aq=> ∃v av aH,e=.returned v/\r.rel av aH aq v/\Below cP.heap.size cP aq:=by
 have bY:cg (Told cP) (λ_=>undef) cP []:=by
  refine ⟨λo=> ?_,λo dV b h=> ?_,λb k h=>h,λo i h=> ?_,Cz⟩
  ·rw[pn (Nat.zero_le _)];trivial
  ·rw[pn (Nat.zero_le _)]at h;cases h
  ·rw[pn (Nat.zero_le _)]at h;simp[aG.ids]at h
 refine Calls.mono (g.2 (Told cP) (λ_=>undef) cP aP bY (λi h=>by simp at h) ek (λi h=>by rw[fr]at h;simp at h)) λe aq=> ?_
 rintro ⟨v,av,aH,he,-,d,-,ar,-⟩;refine ⟨v,av,aH,he,ar,⟨d.os,d.tape,d.output,d.size,λk af=>d.blocks k af ?_⟩⟩;rintro ⟨o,h,-⟩;rw[pn (Nat.zero_le _)]at h;cases h
theorem ai9 [Env] (Cz: ∀g,kB (Told cP) cP g 0 ((Env.glob g).map mX)) {f:FuncId} {args:List K} {aA:List aG} (g:kk P f args [] (.dat .bool true) aA) (fr:K.idsL args=[]) {aP:Array az} (ek:K.relT (Told cP) (λ_=>undef) cP args aP.toList):
  Calls P f aP cP λe aq=>e=.returned (.bool true)/\Below cP.heap.size cP aq:=by
 refine Calls.mono (ato Cz g fr ek) λe aq=> ?_
 rintro ⟨v,av,aH,he,ar,L⟩;have:v=.bool true:=cF.bool.1 ar;exact ⟨by rw[he,this],L⟩
end
open Go.RowKit
def PQ [Env] (P:cv):List aY->Prop
 |[]=>True
 |cT::l=>aux P cT/\PQ P l
theorem bV [Env] {P:cv}: ∀{l:List aY},PQ P l->cc P (hP l):=by
 intro l h;refine Z9 l λcT iZ=> ?_
 induction l with
 |nil=>cases iZ
 |cons F l aR=>
  rcases e7.1 iZ with rfl |iZ
  ·exact h.1
  ·exact aR h.2 iZ
def oQ [Env] (P:cv) (F:bn) (nt:Nat):List (Nat×Code)->Prop
 |[]=>True
 |s::l=>hl P F nt s.1 s.2/\oQ P F nt l
theorem uA [Env] {P:cv} {F:bn} {nt:Nat}: ∀{l m:List (Nat×Code)},l=m->oQ P F nt m-> ∀s∈l,hl P F nt s.1 s.2:=by
 rintro l m rfl h s aN
 induction l with
 |nil=>cases aN
 |cons F l aR=>
  rcases e7.1 aN with rfl |aN
  ·exact h.1
  ·exact aR h.2 aN
theorem Ou {σ ρ:Type} {b:σ->Option (σ⊕ρ)} {d:σ} {r:ρ} (h:b6 b d=some r): ∃n,fY b n d=some r:=⟨_,h⟩
theorem abz {σ ρ:Type} {b:σ->Option (σ⊕ρ)}: ∀{n:Nat} {d:σ} {r:ρ} (k:Nat),fY b n d=some r->fY b (n+k) d=some r
 |0,d,r,k,h=>by cases h
 |n+1,d,r,k,h=>by
  rw[show n+1+k=(n+k)+1 by omega];simp only[fY]at h ⊢;cases L:b d with
  |none=>rw[L]at h;cases h
  |some s=>
   rw[L]at h;cases s with
   |inl t=>exact abz k h
   |inr r=>exact h
theorem nU {σ ρ:Type} {b:σ->Option (σ⊕ρ)} {d:σ} {r:ρ} {n:Nat} (aO:n<=jf) (h:fY b n d=some r):b6 b d=some r:=by obtain ⟨k,af⟩:=Nat.le.dest aO;unfold b6;rw[<-af];exact abz k h
theorem rP [Env] {P:cv} {F:bn} {nt:Nat} (tab:cN P F.cx) (c7:cc P F.Γ) (hm:P.follows .mixedOrders=true) {ax:bK} {c:Code} {k:Nat} {b:ax.S.ty.den->Option (ax.S.ty.den⊕ax.Out)} {f:ax.S.ty.den->Option ax.Out} (Rg: ∀d,f d=b6 b d) (nN:F.Λ k=ax.go f F.m)
  {m:List (Nat×Code)} (ja:ez c k=m) (dS:oQ P F nt m) (aw:hx nt c=true) (c1:jR P F nt c) (L: ∀d,(ax.body F c k d).val=b d):hl P F nt k c:=by
 refine ar1 tab c7 hm nN (uA ja dS) aw c1 λd o h=> ?_
 rw[Rg]at h;obtain ⟨n,aO⟩:=Ou h;exact ⟨n,by rw[show (λd=>(ax.body F c k d).val)=b from funext L];exact aO⟩
theorem rO [Env] {P:cv} {F:bn} (tab:cN P F.cx) (c7:cc P F.Γ) (hm:P.follows .mixedOrders=true) {cT:aY} {fn:Func} (aM:P.funcs[cT.f]? =some fn) (L:fn.body=some (b4 fn)) (cC:ny fn cT.S cT.Z=true)
  {m:List (Nat×Code)} (ja:ez (b4 fn) 0=m) (dS:oQ P F fn.ntmps m) (c1:jR P F fn.ntmps (b4 fn)) (fk:F.m=cT.S.objs.length) (bC: ∀d,(l9 F fn cT.S cT.Z d).val=cT.g d):cz P cT:=
 atq tab c7 hm aM L cC (uA ja dS) c1 fk λd z h=>(bC d).trans h
open Go.RowKit
def uZ (P:cv) (cx:cj):Nat->bq->Bool
 |0,_=>false
 |n+1,T=>match cx.ti T with
  |none=>false
  |some i=>(match i.ty with
   | .bool=>true
   | .int _=>true
   | .str=>true
   | .list _=>false
   | .opq=>false
   |ty=> !i.arr&&ty.chain&&Nat.beq ty.comps i.fields.length&& !P.stoodInHeld T&&(match P.underlying T with
    |some (.struct dx)=>dx.toList.all (λf=> !(f.name== "_")&&uZ P cx n f.type)
    |_=>false))
section
variable {P:cv} {cx:cj} {φ:bL} {w:bk}
theorem acT (tab:cN P cx) {U:bq} {j:gl} (ak:cx.ti U=some j) {xs:Array az} {off:Nat} {x:j.ty.den} (h:bz φ w j.ty x ((xs.toList.drop off).take j.ty.size)) (p6:0<j.ty.size):
  ∃v,(part U xs off).run P w=.ok v w/\cF φ w j.ty x v:=by
 refine ⟨oZ j.ty ((xs.toList.drop off).take j.ty.size),?_,(cF.of h).1⟩;unfold part oZ;simp only[Sem.run_bind,Od tab ak,Result.andThen_ok];by_cases aV:j.ty.isAgg=true
 ·rw[if_pos aV,if_pos aV];simp only[Sem.run_bind,ED tab ak,Result.andThen_ok,Sem.run_pure];congr 2;apply Array.ext';rw[Array.toList_extract,List.extract_eq_take_drop];simp
 ·simp only[Bool.not_eq_true]at aV;have ad:=h.len;have q:((xs.toList.drop off).take j.ty.size)[0]? =some (((xs.toList.drop off).take j.ty.size).headD undef):=by
   cases aw:(xs.toList.drop off).take j.ty.size with
   |nil=>rw[aw]at ad;simp at ad;omega
   |cons a l=>rfl
  have G:xs[off]? =some (((xs.toList.drop off).take j.ty.size).headD undef):=by rw[<-q,List.getElem?_take,if_pos p6,List.getElem?_drop];simp
  simp only[aV,Bool.false_eq_true,if_false,G,Sem.run_pure]
theorem XI (tab:cN P cx) {I:Nat} {xs aZ:Array az} (aR: ∀U j,cx.ti U=some j->uZ P cx I U=true-> ∀x y cH hb e,I<=e->cF φ w j.ty x cH->cF φ w j.ty y hb->(Op.equalIn e U cH hb).run P w=.ok (j.ty.eqb x y) w) {e:Nat} (he:I<=e):
  ∀(t:aB) (dx:List Field) (base:Nat) (x y:t.den),t.chain=true->dx.length=t.comps->(∀(f:Nat) fd,dx[f]? =some fd->(!(fd.name== "_")&&uZ P cx I fd.type)=true/\fd.offset=base+t.offs f/\ ∃j,cx.ti fd.type=some j/\t.nth f=some j.ty/\0<j.ty.size)->
   bz φ w t x ((xs.toList.drop base).take t.size)->bz φ w t y ((aZ.toList.drop base).take t.size)->(Op.eqFields e xs aZ dx).run P w=.ok (t.eqb x y) w
 | .unit,[],base,x,y,_,_,_,_,_=>by simp[Op.eqFields,aB.eqb]
 | .unit,_::_,base,x,y,_,ad,_,_,_=>by simp[aB.comps]at ad
 | .pair a b,[],base,x,y,_,ad,_,_,_=>by simp[aB.comps]at ad
 | .pair a b,f::dx,base,x,y,aw,ad,aM,al,bt=>by
  obtain ⟨q,G,j,ak,aO,p6⟩:=aM 0 f rfl;have au7:a=j.ty:=by simpa [aB.nth] using aO
  subst au7;simp only[bQ,eT,beq_eq_false_iff_ne]at q;have G:f.offset=base:=by simpa [aB.offs] using G
  have sp: ∀{z:(aB.pair j.ty b).den} {eM:Array az},bz φ w (.pair j.ty b) z ((eM.toList.drop base).take (aB.pair j.ty b).size)->bz φ w j.ty z.1 ((eM.toList.drop base).take j.ty.size)/\bz φ w b z.2 ((eM.toList.drop (base+j.ty.size)).take b.size):=by
   intro z eM bI;obtain ⟨bh,ba,M,bd,a6⟩:=bI;have dy:=bd.len;have de:=a6.len;have ea:(aB.pair j.ty b).size=j.ty.size+b.size:=rfl;rw[ea,List.take_add]at M;have hlen:((eM.toList.drop base).take j.ty.size).length=bh.length:=by have:=congrArg List.length M;simp only[eF,ev,List.length_drop]at this ⊢;omega
   obtain ⟨V,a1⟩:=List.append_inj M hlen;rw[V,<-List.drop_drop,a1];exact ⟨bd,a6⟩
  obtain ⟨n7,oP⟩:=sp al;obtain ⟨iV,Kg⟩:=sp bt;obtain ⟨mG,aw7,ahm⟩:=acT tab ak n7 p6;obtain ⟨ayJ,aw8,ahn⟩:=acT tab ak iV p6;have m3:=aR f.type j ak q.2 x.1 y.1 mG ayJ e he ahm ahn;have rest:=XI tab aR he b dx (base+j.ty.size) x.2 y.2 aw (by simpa [aB.comps] using ad) (λk fd af=>by obtain ⟨g1,g2,eu,g3,g4,g5⟩:=aM (k+1) fd (by simpa using af);refine ⟨g1,?_,eu,g3,by simpa [aB.nth] using g4,g5⟩;rw[g2];simp only[aB.offs];omega) oP Kg
  rw[Op.eqFields,if_pos q.1,G];simp only[Sem.run_bind,aw7,aw8,Result.andThen_ok,m3];simp only[aB.eqb];cases L:j.ty.eqb x.1 y.1
  ·simp
  ·simpa using rest
 | .bool,_,_,_,_,h,_,_,_,_=>by cases h
 | .int _,_,_,_,_,h,_,_,_,_=>by cases h
 | .str,_,_,_,_,h,_,_,_,_=>by cases h
 | .opq,_,_,_,_,h,_,_,_,_=>by cases h
 | .list _,_,_,_,_,h,_,_,_,_=>by cases h
theorem abm (tab:cN P cx): ∀(n:Nat) (T:bq) (i:gl),cx.ti T=some i->uZ P cx n T=true-> ∀x y cH hb e,n<=e->cF φ w i.ty x cH->cF φ w i.ty y hb->(Op.equalIn e T cH hb).run P w=.ok (i.ty.eqb x y) w
 |0,T,i,_,h=>by cases h
 |n+1,T,i,E,h=>by
  intro x y cH hb e he al bt;obtain ⟨e,rfl⟩: ∃k,e=k+1:=⟨e-1,u⟩;simp only[uZ,E]at h;have ao:=(tab T i E).desc;have agg: ∀ty:aB,i.ty=ty->ty.isAgg=true->(!i.arr&&ty.chain&&Nat.beq ty.comps i.fields.length&& !P.stoodInHeld T&&(match P.underlying T with
    |some (.struct dx)=>dx.toList.all (λf=> !(f.name== "_")&&uZ P cx n f.type)
    |_=>false))=true->((i.arr=false/\ ∃dx,P.underlying T=some (.struct dx)/\dx.size=i.fields.length/\ ∀(f:Nat) U,i.fields[f]? =some U-> ∃fd,dx[f]? =some fd/\fd.type=U/\nZ P cx ty f U fd.offset)\/
   (i.arr=true/\ ∃n e dO,P.underlying T=some (.array n e)/\i.fields.length=n/\P.info? e=some dO/\ ∀(f:Nat) U,i.fields[f]? =some U->U=e/\nZ P cx ty f U (f*dO.size)))->(Op.equalIn (e+1) T cH hb).run P w=.ok (i.ty.eqb x y) w:=by
   intro ty eH jD L oz;subst eH;simp only[bQ,eT,Nat.beq_eq]at L;obtain ⟨⟨⟨⟨b1,b2⟩,b3⟩,hG⟩,hN⟩:=L;rcases oz with ⟨-,dx,hu,j6,aM⟩|⟨q,-⟩
   ·rw[hu]at hN;simp only[fC]at hN;have Bv:=al.2;have Bz:=bt.2;rw[jD]at Bv Bz;obtain ⟨atG,rfl⟩:=uT Bv;obtain ⟨atH,rfl⟩:=uT Bz;have aeK:P.fieldsOf T=dx:=by simp[Program.fieldsOf,hu]
    rw[run_equalIn_struct (P:=P) w e T atG atH (by rw[aeK];exact hu) hG,aeK];have fG:=al.1.len;have tk:=bt.1.len;refine XI tab (λU j ak aN x y cH hb e he=>abm tab n U j ak aN x y cH hb e he) (I:=n) u i.ty dx.toList 0 x y b2 (by simp[j6,b3]) (λf fd m4=> ?_) ?_ ?_
    ·have bu:f<dx.size:=by have:=(iK.1 m4).1;simpa using this
     obtain ⟨ad5,g1,g2,g3,j,g4,g5,g6⟩:=aM f _ (hr u);have auP:dx[f]? =some fd:=by simpa using m4
     rw[auP]at g1;obtain rfl:=eW g1;refine ⟨hN fd (List.mem_of_getElem? m4),by rw[g3,Nat.zero_add],j,by rw[g2];exact g4,g5,g6⟩
    ·have:=al.1;rw[List.drop_zero,ia (by rw[<-fG];exact ca _)];exact this
    ·have:=bt.1;rw[List.drop_zero,ia (by rw[<-tk];exact ca _)];exact this
   ·rw[b1]at q;cases q
  unfold k6 at ao;obtain ⟨ty,el,ad6,azf,azh,aov⟩:=i;simp only at ao h al bt agg x y ⊢;cases ty with
  |bool=>
   obtain rfl:=cF.bool.1 al;obtain rfl:=cF.bool.1 bt;exact WG ao e x y w
  |int k=>
   obtain rfl:=cF.int.1 al;obtain rfl:=cF.int.1 bt;simp only[Op.equalIn,Sem.run_bind,run_underlying ao,Result.andThen_ok,if_true,Sem.run_pure,aB.eqb];congr 1
  |str=>
   obtain rfl:=cF.str.1 al;obtain rfl:=cF.str.1 bt;simp only[Op.equalIn,Sem.run_bind,run_underlying ao,Result.andThen_ok,Sem.run_pure,aB.eqb];congr 1;rw[beq_toListBytes,qm,qm,uF]
  |list t=>cases h
  |opq=>cases h
  |unit=>exact agg .unit rfl rfl h ao
  |pair a b=>exact agg (.pair a b) rfl rfl h ao
def Ps (P:cv) (cx:cj) (T:bq):Bool:=uZ P cx 20 T&& !P.eqGuardType P.depth T
theorem ajj (tab:cN P cx) {T:bq} {i:gl} (E:cx.ti T=some i) (h:Ps P cx T=true) (jD:i.ty.isAgg=true):ad2 P T i.ty:=by
 simp only[Ps,bQ,eT]at h;obtain ⟨q,G⟩:=h;intro φ w x y cH hb ob pC al bt;have he:=abm (w:=w) tab 20 T i E q x y cH hb Op.maxDepth fm al bt;have Bv:=al.2;have Bz:=bt.2;rw[jD]at Bv Bz;obtain ⟨cs,rfl⟩:=uT Bv;obtain ⟨fi,rfl⟩:=uT Bz;constructor
 ·simp[eqGuard,G,binOp,Op.equal,he]
 ·simp[eqGuard,G,binOp,Op.equal,he]
end
def cj.plain (cx:cj):cj:={cx with tab:=cx.tab.map λp=>(p.1,{p.2 with cmp:=false})}
def acu (P:cv) (cx:cj):Bool:=Pl P cx.plain&&cx.tab.all λp=>GU P cx p.1 p.2&&GF P cx p.1 p.2&&(!p.2.cmp||Ps P cx.plain p.1)&&GH P p.1 p.2&&GJ P p.1 p.2
theorem asv {P:cv} {cx:cj} (h:acu P cx=true):cN P cx:=by
 have dS: ∀(l:List (Nat×gl)) T i,cj.ti.go T l=some i->(T,i)∈l:=by
  intro l T i
  induction l with
  |nil=>intro h;simp[cj.ti.go]at h
  |cons p l aR=>
   obtain ⟨U,j⟩:=p;intro h;simp only[cj.ti.go]at h;cases L:Nat.beq T U
   ·simp only[L,ay]at h;exact gU _ (aR h)
   ·simp only[L,an,bJ]at h;have:T=U:=by simpa using L
    subst this h;simp
 have jo: ∀(l:List (Nat×gl)) T i,cj.ti.go T l=some i->cj.ti.go T (l.map λp=>(p.1,{p.2 with cmp:=false}))=some {i with cmp:=false}:=by
  intro l T i
  induction l with
  |nil=>intro h;simp[cj.ti.go]at h
  |cons p l aR=>
   obtain ⟨U,j⟩:=p;intro h;simp only[cj.ti.go,List.map_cons]at h ⊢;cases L:Nat.beq T U
   ·simp only[L,ay]at h ⊢;exact aR h
   ·simp only[L,an,bJ]at h ⊢;subst h;rfl
 simp only[acu,bQ,fC]at h;obtain ⟨q,G⟩:=h;have tab:=ai6 q;intro T i E;have hm:=dS cx.tab T i E;have ab:=G _ hm;simp only[Bool.or_eq_true,eT]at ab;refine ⟨Z7 ab.1.1.1.1,ZF ab.1.1.1.2,λaw _ aV=> ?_,ZH ab.1.2,ZJ ab.2⟩;have aE:=ab.1.1.2.resolve_left (by rw[aw];simp);exact ajj (i:={i with cmp:=false}) tab (jo cx.tab T i E) aE aV
theorem a28 {x:Int} (bY: -9223372036854775808<=x) (q:x<9223372036854775808):IntKind.i64.wrap x=x:=PE bY q
open Go.RowKit
def Vf:List (Nat×Nat)->Nat->Nat->Bool
 |[],_,_=>false
 |(f,j)::l,mg,gg=>(Nat.beq f mg&&Nat.beq j gg)||Vf l mg gg
def Vg (R:bR):Shape:=⟨R.map λp=>(p.1,.undef),[]⟩
def La [Env] (F:bn) (fn:Func) (args:List K) (J:List aG):DT (K×List aG):=
 bif Nat.ble args.length fn.ntmps then
  (gb {cx:=F.cx,Γ:=F.Γ,Λ:=λ_ _=>.fail,keep:=F.keep,m:=J.length} (fn.body.getD .skip) 0 ⟨fU 0 args,J⟩).bind λs=>match s.1 with
   | .exit _=>.fail
   |_=>((l1 F.cx s.2.regs 0 fn.results.toList).run s.2.heap s.2.heap.length .none).bind λp=>
    ((Am (Vg p.1) J.length p.1).run p.2.1 p.2.1.length .none).bind λd=>
     bif decide (d.1.regs.map (·.1)=List.range' 0 fn.results.size) then .leaf (ki d.1.regs,d.1.heap) else .fail
 else .fail
def Aj (f:FuncId) (g:List K->List aG->DT (K×List aG)) (Γ:hM):hM:=λmg args J=>bif Nat.beq mg f then g args J else Γ mg args J
section
variable {P:cv} {J:List aG}
theorem abo [Env] {f:FuncId} {g:List K->List aG->DT (K×List aG)} {Γ:hM} (h: ∀args J r aA,(g args J).val=some (r,aA)->wH P f args J r aA) (c7:cc P Γ):cc P (Aj f g Γ):=by
 intro mg args J r aA e;unfold Aj at e;cases L:Nat.beq mg f
 ·rw[L,ay]at e;exact c7 mg args J r aA e
 ·rw[L,an]at e;have:mg=f:=by simpa using L
  subst this;exact h args J r aA e
theorem FF [Env] {f:FuncId} {g:List K->List aG->DT (K×List aG)} {Γ:hM} (aM:jv f=false) (h: ∀args J r aA,(g args J).val=some (r,aA)->kk P f args J r aA) (c7:cc P Γ):cc P (Aj f g Γ):=
 abo (λargs J r aA e=>(h args J r aA e).x aM) c7
theorem F4 [Env] {F:bn} (tab:cN P F.cx) (c7:cc P F.Γ) (hm:P.follows .mixedOrders=true) {f:FuncId} {fn:Func} (aM:P.funcs[f]? =some fn) (L:fn.body=some (b4 fn)) (cC:(hx fn.ntmps (b4 fn)&& !(fn.name== "runtime.NumGoroutine")&& !e0 (b4 fn)&& !gA (b4 fn)&&Nat.ble fn.ntmps dJ&&Nat.ble fn.results.size dJ)=true) (ad:ez (b4 fn) 0=[])
  (args:List K) (J:List aG) (r:K) (aA:List aG) (e:(La F fn args J).val=some (r,aA)):kk P f args J r aA:=by
 simp only[bQ,eT]at cC;obtain ⟨⟨⟨⟨⟨oB,nH⟩,nI⟩,jT⟩,h6⟩,iq⟩:=cC;have h6:=hc h6;have iq:=hc iq;unfold La at e;cases Q8:Nat.ble args.length fn.ntmps
 ·simp[Q8,DT.val]at e
 rw[Q8,an]at e;obtain ⟨⟨M,cd⟩,q,G⟩:=DT.val_bind_some e;have ab:M=.nrm\/M=.ret:=by
  cases M with
  |nrm=>exact .inl rfl
  |ret=>exact .inr rfl
  |exit i=>simp[DT.val]at G
 have aE:(((l1 F.cx cd.regs 0 fn.results.toList).run cd.heap cd.heap.length .none).bind λp=>
    ((Am (Vg p.1) J.length p.1).run p.2.1 p.2.1.length .none).bind λd=>
     bif decide (d.1.regs.map (·.1)=List.range' 0 fn.results.size) then DT.leaf (ki d.1.regs,d.1.heap) else .fail).val=some (r,aA):=by
  rcases ab with rfl |rfl<;>exact G
 obtain ⟨⟨R,bf,pq,tB⟩,bF,dU⟩:=DT.val_bind_some aE;have kN:=HM.go_run _ _ _ _ _ _ _ _ bF;obtain ⟨⟨bb,bg,yP,pp⟩,hh,pW⟩:=DT.val_bind_some dU;have at2:=HM.go_run _ _ _ _ _ _ _ _ hh;simp only at pW;cases af:decide (bb.regs.map (·.1)=List.range' 0 fn.results.size)
 ·simp[af,DT.val]at pW
 rw[af,an]at pW;simp only[DT.val,bJ,c0]at pW;obtain ⟨rfl,rfl⟩:=pW;have Ij:=of_decide_eq_true af;refine ⟨⟨fn,aM,nH,by rw[L];rfl⟩,?_⟩;intro φ ι w aP ek e2 fE fr;refine xq aM L ?_;have eL:aP.size=args.length:=by
  have: ∀(l:List K) (aP:List az),K.relT φ ι w l aP->aP.length=l.length:=by
   intro l
   induction l with
   |nil=>intro aP h;simp only[K.relT]at h;simp[h]
   |cons r l aR=>intro aP h;obtain ⟨v,m,rfl,-,h⟩:=h;simp[aR m h]
  simpa using this _ _ fE
 have ea:aP.size<=fn.ntmps:=by rw[eL];exact hc Q8
 have lu:ds φ ι w ⟨fn.ntmps,w.heap.size,[],none,false⟩ ⟨fU 0 args,J⟩ {tmps:=aP++Array.replicate (fn.ntmps-aP.size) undef,defers:=[]}:=by
  refine ⟨ek,λI r ao=> ?_,by simp;omega,h6,oa (ca _)⟩;obtain ⟨bd,a6,cp⟩:=oH args 0;obtain ⟨k,af,hU⟩:=nf _ 0 I r (by rw[bd,a6]) ao;have e1:I=k:=u;subst e1;have bO:=cp I (I,r) hU;simp only at bO;obtain ⟨v,a8,jq⟩:=ue fE bO;have fb:aP[I]? =some v:=by simpa using a8
  have lN:I<aP.size:=(kU.1 fb).1;have:(aP++Array.replicate (fn.ntmps-aP.size) undef).getD I undef=v:=by rw[jc,Array.getElem?_append_left lN,fb];rfl
  rw[iR u,this];exact ⟨jq,λi E=>fr i (tZ bO i E)⟩
 have jH:li J.length J:=λo W=>e2 o W
 have auu:fn.body.getD .skip=b4 fn:=rfl;rw[auu]at q;refine nR (F:={cx:=F.cx,Γ:=F.Γ,Λ:=λ_ _=>.fail,keep:=F.keep,m:=J.length}) tab c7 hm (b4 fn) 0 _ M cd φ ι w _ _ q (by rw[ad];simp) oB (eS _ nI) (iL.fn jT) lu jH λbs aq av aH cY sp bZ=> ?_
 refine Ew ab cY sp λaq cY sp=> ?_
 have lo:=bZ.live jH;obtain ⟨bw,bS,us,dD,du,gq,hy⟩:=wi tab fn.results.toList 0 R cd.heap _ bf pq kN cY.heap cY.regs;have kq:R.length=us.length:=by have:=congrArg List.length gq;simpa [du] using this
 have rr:mQ av aH aq bf R (λI=>us.toArray.getD I undef):=by
  rw[bw];intro I r ao;obtain ⟨k,af,hU⟩:=nf R 0 I r (by rw[gq];congr 1;omega) ao;have e1:I=k:=u;subst e1;obtain ⟨v,a8,jq,gP⟩:=hy I (I,r) hU;have:us.toArray.getD I undef=v:=by simp[jc,a8]
  simp only[this];exact ⟨jq,gP⟩
 obtain ⟨ee,en,dH,cV,eV,lW,qe,agV,azU⟩:=abt (jM:=λI=>us.toArray.getD I undef) at2 rfl (by rw[bw];exact cY.heap) rr (by rw[bw];exact lo);have hR:bb.regs.length=us.toArray.size:=by have:=congrArg List.length Ij;simp only[List.length_map,List.length_range']at this;rw[this];simp[du]
 obtain ⟨ag,aS⟩:=uO (aP:=us.toArray) (R:=bb.regs) (by rw[Ij];congr 1;simpa [du] using hR.symm) hR cV;have mu:=wj dD;refine ⟨_,mu,_,ee,en,rfl,dH,?_,?_,ag,aS⟩
 ·rw[bw]at eV;exact sp.trans eV
 ·rw[bw]at lW;have ka:=bZ.trans lW;refine ⟨λo W=> ?_,λo W=> ?_⟩
  ·exact (ka o (gM W) W).1
  ·exact (ka o (gM W) W).2
end
open Go.RowKit
structure adk [Env] (F:bn) (ops:Array Oper) (st:bU) (gJ:bU->Prop) (os:List Oper) (o:Oper) (T:bq) (x:Operand) (I:Tmp) (dL:bU) (t:aB) (xs:List t.den):Prop where
 split:ops.toList=os++[o]
 op:o.op=.binOp .eql T x (.const (.slice none 0 0)) T
 dst:o.dst=some I
 guard:o.guard=none
 run:(oO F.cx F.Γ ops os st).val=some dL
 val:h1 dL.regs x=.dat (.list t) xs
 ty:F.cx.isTy T (.list t)=true
 yes:xs=[]->gJ ⟨dL.regs.put I (.dat .bool true),dL.heap⟩
 no:gJ ⟨dL.regs.put I (.dat .bool false),dL.heap⟩
def zQ [Env] (F:bn) (c:Code) (k:Nat) (st:bU) (gJ:ef->bU->Prop):Prop:= ∃e bb,(gb F c k st).val=some (e,bb)/\gJ e bb
def kW [Env] (F:bn):Code->Nat->bU->(ef->bU->Prop)->Prop
 | .seq a b,k,st,gJ=>zQ F (.seq a b) k st gJ\/kW F a k st λe bb=>(e=.nrm->kW F b k bb gJ)/\(e≠ .nrm->gJ e bb)
 | .cond c a b,k,st,gJ=>zQ F (.cond c a b) k st gJ\/ ∃I t,c=.tmp I/\st.regs.get I=some (.dat .bool t)/\(t=true->kW F a k st gJ)/\(t=false->kW F b k st gJ)
 | .region id ops false,k,st,gJ=>zQ F (.region id ops false) k st gJ\/(∃bb,(oO F.cx F.Γ ops ops.toList st).val=some bb/\gJ .nrm bb)\/ ∃os o T x I dL t xs,adk F ops st (gJ .nrm) os o T x I dL t xs
 |c,k,st,gJ=>zQ F c k st gJ
theorem kW.det [Env] {F:bn} {c:Code} {k:Nat} {st:bU} {gJ:ef->bU->Prop} (h:zQ F c k st gJ):kW F c k st gJ:=by
 cases c with
 |region id ops draw=>cases draw<;>first |exact h |exact .inl h
 |_=>first |exact h |exact .inl h
section
variable {P:cv} {nt:jy} {φ:bL} {ι:Nat->az} {w:bk} {J:List aG}
theorem anf {T e:bq} (hu:P.underlying T=some (.slice e)) (I:Nat) (A:Option Addr) (n c:Nat) (w:bk):(Op.equalIn (I+1) T (.slice A n c) (.slice none 0 0)).run P w=.ok A.isNone w:=by cases A<;>simp[Op.equalIn,run_underlying hu]
theorem anT {T e:bq} (hu:P.underlying T=some (.slice e)) (A:Option Addr) (n c:Nat) (w:bk):(Op.equal T (.slice A n c) (.slice none 0 0)).run P w=.ok A.isNone w:=anf hu 9999 A n c w
theorem aa1 [Env] {cx:cj} {Γ:hM} (tab:cN P cx) (c7:cc P Γ) {ops:Array Oper} {bA:Exit->Act->bk->Prop} {rest:List Oper}: ∀(l:List Oper) (st bb:bU) (φ:bL) (ι:Nat->az) (w:bk) (a:Act),(oO cx Γ ops l st).val=some bb->ds φ ι w nt st a->l.all (pO nt.n)=true->l.any u1=false->
  (∀bs aq av aH,ds av aH aq nt bb bs->Step φ ι w st.heap av aH aq bb.heap->eo ι st.heap aH bb.heap->wpListIn (e9 nt.ro) 0 P ops bA rest bs aq)->wpListIn (e9 nt.ro) 0 P ops bA (l++rest) a w
 |[],st,bb,φ,ι,w,a,e,d,ao,mo,k=>by simp only[oO,DT.val,bJ]at e;subst e;exact k a w φ ι d (Step.refl _ _ _ _) (eo.refl _ _)
 |o::l,st,bb,φ,ι,w,a,e,d,ao,mo,k=>by
  simp only[oO]at e;obtain ⟨cd,cl,V⟩:=DT.val_bind_some e;simp only[List.all_cons,bQ]at ao;simp only[List.any_cons,Bool.or_eq_false_iff]at mo;obtain ⟨⟨dL,m,p⟩,M,a1⟩: ∃s,(qo cx Γ ops o st st.heap.length).val=some s/\s.1=cd:=by
   split at cl
   ·rename_i c W;simp[u1,W]at mo
   ·obtain ⟨s,a1,bp⟩:=DT.val_bind_some cl;simp only[DT.val,bJ]at bp;exact ⟨s,a1,bp⟩
  simp only at a1;subst a1;have s:=Nr (bA:=bA) tab c7 M d (O1 _ _) ao.1 λbs aq av aH s1 t1 bd dm=>
   aa1 tab c7 l dL bb av aH aq bs V s1 ao.2 mo.2 λa2 da ee en s2 t2 a6=>k a2 da ee en s2 (t1.trans t2) (bd.trans a6)
  rw[List.cons_append];unfold wpListIn;split
  ·rename_i h;rw[if_pos h]at s;exact s
  ·rename_i h;rw[if_neg h]at s;exact ⟨λ_ _=>trivial,s⟩
theorem apt [Env] {F:bn} (tab:cN P F.cx) (c7:cc P F.Γ) {ops:Array Oper} {st:bU} {gJ:bU->Prop} {os:List Oper} {o:Oper} {T:bq} {x:Operand} {I:Tmp} {dL:bU} {t:aB} {xs:List t.den} (a7:adk F ops st gJ os o T x I dL t xs)
  {bA:Exit->Act->bk->Prop} {a:Act} {id:Nat} (ao:ops.toList.all (pO nt.n)=true) (mo:ops.toList.any u1=false) (d:ds φ ι w nt st a)
  (k: ∀bb bs aq av aH,gJ bb->ds av aH aq nt bb bs->Step φ ι w st.heap av aH aq bb.heap->eo ι st.heap aH bb.heap->bA .normal bs aq):(Code.region id ops false).wpIn (e9 nt.ro) 0 P bA a w:=by
 refine wpIn_region_list ?_;rw[a7.split]at ao mo ⊢;rw[List.any_append,Bool.or_eq_false_iff]at mo;simp only[List.all_append,List.all_cons,List.all_nil,Bool.and_true,bQ]at ao;refine aa1 tab c7 os st dL φ ι w a a7.run d ao.1 mo.1 λbs aq av aH s1 t1 bd=> ?_
 have al:=(s1.eval x).1;rw[a7.val]at al;have ys:cF av aq (.list t) xs (bs.eval x):=al;obtain ⟨A,m,c,a8,ad,vr,re⟩:=cF.list ys;obtain ⟨ti,ft,eH⟩:=hO a7.ty;have hu:=(kM tab ft eH).1;have hw:Region.wanted o (yielded ops bs.tmps)=true:=by simp[Region.wanted,a7.guard]
 simp only[wpListIn];rw[if_pos hw];have he:(execOp bs.eval o).run P aq=.ok (.value (.bool A.isNone)) aq:=by simp only[execOp,a7.op,a8];rw[show bs.eval (.const (.slice none 0 0))=.slice none 0 0 from rfl];simp[eqGuard,binOp,anT hu]
 have key: ∀b,A.isNone=b->gJ ⟨dL.regs.put I (.dat .bool b),dL.heap⟩->bA .normal (bs.put o.dst (.bool A.isNone)) aq:=by
  intro b L aT;rw[L];have cn:ds av aH aq nt ⟨dL.regs.put I (.dat .bool b),dL.heap⟩ (bs.put o.dst (.bool b)):=by
   have oz: ∀e,o.dst=some e->e<nt.n:=λe he=>by have:=ao.2;unfold pO at this;rw[he]at this;simpa using this
   have:=s1.after s1.heap (Step.refl _ _ _ _) (eo.refl _ _) oz (r:=.dat .bool b) (v:=.bool b) (h2 (cF.bool.2 rfl)) (by simp[K.ids]);rw[a7.dst]at this ⊢;exact this
  exact k _ _ _ _ _ aT cn t1 bd
 refine uL (λc aw=>by rw[a7.op]at aw;cases aw) ?_;rw[he];simp only[Oper.uponIn_value];cases A with
 |none=>
  have bY:xs=[]:=kV (by
   rcases re with h |⟨b,o,cs,h,_⟩
   ·omega
   ·cases h)
  exact key true rfl (a7.yes bY)
 |some alr=>exact key false rfl a7.no
theorem atr [Env] {F:bn} (tab:cN P F.cx) (c7:cc P F.Γ) (hm:P.follows .mixedOrders=true): ∀(c:Code) (k:Nat) (st:bU) (gJ:ef->bU->Prop) (φ:bL) (ι:Nat->az) (w:bk) (a:Act) (bA:Exit->Act->bk->Prop),kW F c k st gJ->
  (∀s∈ez c k,hl P F nt.n s.1 s.2)->hx nt.n c=true->(e0 c=false/\gA c=false)->ds φ ι w nt st a->li F.m st.heap->
  (∀e bb bs aq av aH,gJ e bb->ds av aH aq nt bb bs->Step φ ι w st.heap av aH aq bb.heap->ie F.m ι st.heap aH bb.heap->bA (kZ e) bs aq)->c.wpIn (e9 nt.ro) 0 P bA a w:=by
 intro c
 induction c with
 |seq x y jr js=>
  intro k st gJ φ ι w a bA h ad aw c1 cn lm c8;simp only[kW]at h;rcases h with ⟨e,bb,q,G⟩|h
  ·exact nR tab c7 hm _ k st e bb φ ι w a bA q ad aw (eS _ c1.1) (iL.no c1.1 c1.2) cn lm λbs aq av aH cY sp bZ=>c8 e bb bs aq av aH G cY sp bZ
  simp only[hx,bQ]at aw;simp only[e0,gA,Bool.or_eq_false_iff]at c1;refine wpIn_seq (jr k st _ φ ι w a _ h (λs aN=>ad s (by simp[ez,aN])) aw.1 ⟨c1.1.1,c1.2.1⟩ cn lm λM cd bs aq av aH aT cY sp bZ=> ?_);by_cases he:M=.nrm
  ·subst he;exact js k cd gJ av aH aq bs bA (aT.1 rfl) (λs aN=>ad s (by simp[ez,aN])) aw.2 ⟨c1.1.2,c1.2.2⟩ cY (bZ.live lm) λV dL a2 da ee en m8 kg pA m9=>c8 V dL a2 da ee en m8 kg (sp.trans pA) (bZ.trans m9)
  ·have aN:=c8 M cd bs aq av aH (aT.2 he) cY sp bZ;cases M with
   |nrm=>exact absurd rfl he
   |exit i=>exact aN
   |ret=>exact aN
 |cond c x y jr js=>
  intro k st gJ φ ι w a bA h ad aw c1 cn lm c8;simp only[kW]at h;rcases h with ⟨e,bb,q,G⟩|h
  ·exact nR tab c7 hm _ k st e bb φ ι w a bA q ad aw (eS _ c1.1) (iL.no c1.1 c1.2) cn lm λbs aq av aH cY sp bZ=>c8 e bb bs aq av aH G cY sp bZ
  obtain ⟨I,t,rfl,ao,aW,aM⟩:=h;simp only[hx,bQ]at aw;simp only[e0,gA,Bool.or_eq_false_iff]at c1;have L:=(cn.regs I _ ao).1;have cw:I≠dJ:=λe=>by have G:=cF.bool.1 L;rw[e,qJ]at G;cases G
  rw[iR cw]at L;have L:a.eval (.tmp I)=.bool t:=cF.bool.1 L;refine wpIn_cond L ?_;cases t
  ·exact js k st gJ φ ι w a bA (aM rfl) (λs aN=>ad s (by simp[ez,aN])) aw.2 ⟨c1.1.2,c1.2.2⟩ cn lm c8
  ·exact jr k st gJ φ ι w a bA (aW rfl) (λs aN=>ad s (by simp[ez,aN])) aw.1 ⟨c1.1.1,c1.2.1⟩ cn lm c8
 |region id ops draw=>
  intro k st gJ φ ι w a bA h ad aw c1 cn lm c8;cases draw with
  |true=>
   simp only[kW]at h;obtain ⟨e,bb,q,G⟩:=h;exact nR tab c7 hm _ k st e bb φ ι w a bA q ad aw (eS _ c1.1) (iL.no c1.1 c1.2) cn lm λbs aq av aH cY sp bZ=>c8 e bb bs aq av aH G cY sp bZ
  |false=>
   simp only[kW]at h;rcases h with ⟨e,bb,q,G⟩|⟨bb,q,G⟩|⟨os,o,T,x,I,dL,t,xs,jj⟩
   ·exact nR tab c7 hm _ k st e bb φ ι w a bA q ad aw (eS _ c1.1) (iL.no c1.1 c1.2) cn lm λbs aq av aH cY sp bZ=>c8 e bb bs aq av aH G cY sp bZ
   ·exact wpIn_region_list (Kr tab c7 ops.toList st bb φ ι w a q cn aw (λh=>absurd (c1.2.symm.trans h) aU) λbs aq av aH cY sp bZ=>c8 .nrm bb bs aq av aH G cY sp (bZ.keepM _))
   ·exact apt tab c7 jj aw c1.2 cn λbb bs aq av aH aT cY sp bZ=>c8 .nrm bb bs aq av aH aT cY sp (bZ.keepM _)
 |_=>
  intro k st gJ φ ι w a bA h ad aw c1 cn lm c8;simp only[kW]at h;obtain ⟨e,bb,q,G⟩:=h;exact nR tab c7 hm _ k st e bb φ ι w a bA q ad aw (eS _ c1.1) (iL.no c1.1 c1.2) cn lm λbs aq av aH cY sp bZ=>c8 e bb bs aq av aH G cY sp bZ
def Vh [Env] (F:bn) (fn:Func) (Z:Shape) (z:Z.ty.den) (e:ef) (st:bU):Prop:=
 (e=.nrm\/e=.ret)/\(((l1 F.cx st.regs 0 fn.results.toList).run st.heap st.heap.length .none).bind λ(R,h,_,_)=>Z.take F.m ⟨R,h⟩).val=some z
theorem ats [Env] {F:bn} (tab:cN P F.cx) (c7:cc P F.Γ) (hm:P.follows .mixedOrders=true) {f:FuncId} {fn:Func} {c:Code} {S Z:Shape} (aM:P.funcs[f]? =some fn) (L:fn.body=some c) (cC:ny fn S Z=true) (dS: ∀s∈ez c 0,hl P F fn.ntmps s.1 s.2) (c1:e0 c=false)
  {args:List K} (fk:F.m=S.objs.length) {d:S.ty.den} {z:Z.ty.den} (ah:S.dec ⟨fU 0 args,J⟩=some d) (e:kW F c 0 (S.enc d) (Vh F fn Z z)):kk P f args J (ki (Z.enc z).regs) (Z.enc z).heap:=by
 have gX:=Shape.dec_enc ah;simp only[ny,L,bQ,eT,dT]at cC;obtain ⟨⟨⟨⟨⟨⟨oB,jT⟩,h6⟩,iq⟩,nH⟩,nI⟩,nJ⟩:=cC;have h6:=hc h6;have iq:=hc iq;have iQ:args.length=S.regs.length/\J.length=S.objs.length:=by
  unfold Shape.dec at ah;simp only at ah;cases aV:jb S.regs (fU 0 args) with
  |none=>simp[aV]at ah
  |some x=>
   cases L:fW S.objs J with
   |none=>simp[aV,L]at ah
   |some y=>
    refine ⟨by rw[<-zm _ _ _ aV,(oH args 0).2.1],?_⟩;have: ∀(d:List dZ) (R:List aG) (l:List eN),fW d R=some l->R.length=d.length:=by
     intro d
     induction d with
     |nil=>intro R l h;cases R<;>simp[fW]at h ⊢
     |cons a d aR=>
      intro R l h;cases R with
      |nil=>simp[fW]at h
      |cons b R=>
       simp only[fW]at h;split at h
       ·obtain ⟨b,L,-⟩:=h9.1 h;simp[aR R b L]
       ·cases h
    exact this _ _ _ L
 refine ⟨⟨fn,aM,nH,by rw[L];rfl⟩,?_⟩
 ·intro φ ι w aP ek e2 fE fr;refine xq aM L ?_;have eL:aP.size=args.length:=by
   have: ∀(l:List K) (aP:List az),K.relT φ ι w l aP->aP.length=l.length:=by
    intro l
    induction l with
    |nil=>intro aP h;simp only[K.relT]at h;simp[h]
    |cons r l aR=>intro aP h;obtain ⟨v,m,rfl,-,h⟩:=h;simp[aR m h]
   simpa using this _ _ fE
  have ea:aP.size<=fn.ntmps:=by rw[eL,iQ.1];exact hc nI
  have lu:ds φ ι w ⟨fn.ntmps,w.heap.size,[],none,false⟩ (S.enc d) {tmps:=aP++Array.replicate (fn.ntmps-aP.size) undef,defers:=[]}:=by
   rw[gX];refine ⟨ek,λI r ao=> ?_,by simp;omega,h6,oa (ca _)⟩;obtain ⟨bd,a6,cp⟩:=oH args 0;obtain ⟨k,af,hU⟩:=nf _ 0 I r (by rw[bd,a6]) ao;have e1:I=k:=u;subst e1;have bO:=cp I (I,r) hU;simp only at bO;obtain ⟨v,a8,jq⟩:=ue fE bO;have fb:aP[I]? =some v:=by simpa using a8
   have lN:I<aP.size:=(kU.1 fb).1;have:(aP++Array.replicate (fn.ntmps-aP.size) undef).getD I undef=v:=by rw[jc,Array.getElem?_append_left lN,fb];rfl
   rw[iR u,this];exact ⟨jq,λi E=>fr i (tZ bO i E)⟩
  have pb:(S.enc d).heap=J:=by rw[gX]
  have jH:li F.m (S.enc d).heap:=by rw[pb,fk,<-iQ.2];exact λo W=>e2 o W
  refine atr tab c7 hm c 0 _ _ φ ι w _ _ e dS oB ⟨c1,jT⟩ lu jH λM cd bs aq av aH aT cY sp bZ=> ?_
  obtain ⟨ab,aE⟩:=aT;rw[pb]at sp;refine Ew ab cY sp λaq cY sp=> ?_
  obtain ⟨⟨R,bf,pq,tB⟩,bF,dU⟩:=DT.val_bind_some aE;have kN:=HM.go_run _ _ _ _ _ _ _ _ bF;have kP:(Z.enc z).regs.map (·.1)=List.range' 0 fn.results.size:=by
   obtain ⟨⟨bb,bg,yP,pp⟩,bd,a6⟩:=DT.val_bind_some dU;simp only[DT.val_ofOpt]at a6;have cp:(Z.enc z).regs.map (·.1)=Z.regs.map (·.1):=by
    unfold Shape.dec at a6;cases aV:jb Z.regs bb.regs with
    |none=>simp[aV]at a6
    |some x=>
     cases L:fW Z.objs bb.heap with
     |none=>simp[aV,L]at a6
     |some y=>
      have:=rI _ _ x [] aV;rw[Shape.dec_enc (st:=bb) (by simp only[Shape.dec,aV,L]at a6 ⊢;exact a6)];exact v7 _ _ _ _ this
   rw[cp,nJ]
  have lo:=bZ.live jH;obtain ⟨bw,bS,us,dD,du,gq,hy⟩:=wi tab fn.results.toList 0 R cd.heap _ bf pq kN cY.heap cY.regs;have kq:R.length=us.length:=by have:=congrArg List.length gq;simpa [du] using this
  have kg:ds av aH aq ⟨us.toArray.size,0,[],none,false⟩ ⟨R,bf⟩ {tmps:=us.toArray,defers:=[]}:=by
   rw[bw];refine ⟨cY.heap,λI r ao=> ?_,rfl,by rw[List.size_toArray,du];simpa using iq,oa (Nat.zero_le _)⟩;obtain ⟨k,af,hU⟩:=nf R 0 I r (by rw[gq];congr 1;omega) ao;have e1:I=k:=u;subst e1;obtain ⟨v,a8,jq,gP⟩:=hy I (I,r) hU;have:us.toArray.getD I undef=v:=by simp[jc,a8]
   have lN:I<us.length:=(iK.1 a8).1;have RE:fn.results.toList.length=fn.results.size:=aU;rw[iR u];simp only[this];exact ⟨jq,gP⟩
  obtain ⟨ee,en,dH,cV,eV,lW,qe⟩:=lJ dU kg (by rw[bw];exact lo);have hR:(Z.enc z).regs.length=us.toArray.size:=by have:=congrArg List.length kP;simp only[List.length_map,List.length_range']at this;rw[this];simp[du]
  obtain ⟨ag,aS⟩:=uO (aP:=us.toArray) (R:=(Z.enc z).regs) (by rw[kP];congr 1;simpa [du] using hR.symm) hR (w5 (a:={tmps:=us.toArray,defers:=[]}) (by rw[kP];congr 1;simpa [du] using hR.symm) (by rw[hR,List.size_toArray,du];simpa using iq) dH.regs);have mu:=wj dD;refine ⟨_,mu,_,ee,en,rfl,dH.heap,?_,?_,ag,aS⟩
  ·rw[bw]at cV;exact sp.trans cV
  ·rw[pb]at bZ;rw[bw]at eV;have ka:=bZ.trans eV;refine ⟨λo W=> ?_,λo W=> ?_⟩
   ·have bu:o<F.m:=by rw[fk,<-iQ.2];exact gM W
    exact (ka o bu W).1
   ·have bu:o<F.m:=by rw[fk,<-iQ.2];exact gM W
    exact (ka o bu W).2
end
def GA:Code->Option (Array Oper×Array Oper×Tmp×Code×Code)
 | .seq (.region _ tu false) (.seq (.seq (.region _ fH false) (.cond (.tmp I) A .skip)) B)=>some (tu,fH,I,A,B)
 |_=>none
def wF:List Oper->Option (List Oper×Oper)
 |[]=>none
 |[o]=>some ([],o)
 |o::l=>match wF l with
  |some (os,s)=>some (o::os,s)
  |none=>none
def PL (y:Operand):Bool:=match y with
 | .const (.slice none 0 0)=>true
 |_=>false
def Bt [Env] (F:bn) (fn:Func) (Z:Shape) (c:Code) (gQ:bU) (b:Bool):DT (Z.ty.den×Nat):=match GA c with
 |some (tu,fH,I,A,B)=>(oO F.cx F.Γ tu tu.toList gQ).bind λcd=>match wF fH.toList with
  |some (os,o)=>match o.op,o.dst,o.guard with
   | .binOp .eql T x y U,some lH,none=>bif Nat.beq I lH&&PL y&&Nat.beq U T then
     (oO F.cx F.Γ fH os cd).bind λdL=>match h1 dL.regs x with
      | .dat (.list t) aZ=>bif F.cx.isTy T (.list t) then
        (gb F (match b with |true=>A |false=>B) 0 ⟨dL.regs.put I (.dat .bool b),dL.heap⟩).bind λs=>match s.1 with
         | .ret=>(((l1 F.cx s.2.regs 0 fn.results.toList).run s.2.heap s.2.heap.length .none).bind λ(R,h,_,_)=>Z.take F.m ⟨R,h⟩).bind λz=>.leaf (z,aZ.length)
         |_=>.fail
       else .fail
      |_=>.fail
    else .fail
   |_,_,_=>.fail
  |none=>.fail
 |none=>.fail
theorem Ye: ∀{l:List Oper} {os:List Oper} {o:Oper},wF l=some (os,o)->l=os++[o]
 |[],_,_,h=>by simp[wF]at h
 |[a],os,o,h=>by simp only[wF,bJ,c0]at h;obtain ⟨rfl,rfl⟩:=h;rfl
 |a::b::l,os,o,h=>by
  simp only[wF]at h;split at h
  ·rename_i azW s aN;simp only[bJ,c0]at h;obtain ⟨rfl,rfl⟩:=h;have:=Ye (l:=b::l) aN;rw[this];rfl
  ·cases h
theorem aqo {c:Code} {tu fH:Array Oper} {I:Tmp} {A B:Code} (h:GA c=some (tu,fH,I,A,B)): ∃i0 i1,c=.seq (.region i0 tu false) (.seq (.seq (.region i1 fH false) (.cond (.tmp I) A .skip)) B):=by
 unfold GA at h;split at h
 ·simp only[bJ,c0]at h;obtain ⟨rfl,rfl,rfl,rfl,rfl⟩:=h;exact ⟨_,_,rfl⟩
 ·cases h
theorem adN {α:Type} {x:DT α} {a b:α} (h:x.val=some a) (g:x.val=some b):a=b:=by rw[h]at g;exact eW g
theorem arl [Env] {F:bn} {fn:Func} {Z:Shape} {c:Code} {gQ:bU} {z EF:Z.ty.den} {n awz:Nat} (bW:(Bt F fn Z c gQ true).val=some (EF,awz)) (fj:(Bt F fn Z c gQ false).val=some (z,n)) (bY:n=0->EF=z):kW F c 0 gQ (Vh F fn Z z):=by
 unfold Bt at bW fj;cases aw:GA c with
 |none=>rw[aw]at fj;simp[DT.val]at fj
 |some s=>
  obtain ⟨tu,fH,I,A,B⟩:=s;rw[aw]at bW fj;obtain ⟨i0,i1,rfl⟩:=aqo aw;simp only at bW fj;obtain ⟨cd,M,fj⟩:=DT.val_bind_some fj;obtain ⟨tP,gy,bW⟩:=DT.val_bind_some bW;obtain rfl:=adN M gy;clear gy;cases ah:wF fH.toList with
  |none=>rw[ah]at fj;simp[DT.val]at fj
  |some s=>
   obtain ⟨os,o⟩:=s;rw[ah]at bW fj;simp only at bW fj;split at fj
   case h_2=>simp[DT.val]at fj
   rename_i T x y U lH W ao bC;rw[W,ao,bC]at bW;simp only at bW;cases L:Nat.beq I lH&&PL y&&Nat.beq U T
   ·rw[L]at fj;simp[DT.val]at fj
   rw[L,an]at bW fj;simp only[bQ,Nat.beq_eq]at L;obtain ⟨⟨rfl,bt⟩,rfl⟩:=L;obtain rfl:y=.const (.slice none 0 0):=by
    unfold PL at bt;split at bt
    ·rfl
    ·cases bt
   obtain ⟨dL,V,fj⟩:=DT.val_bind_some fj;obtain ⟨SY,mU,bW⟩:=DT.val_bind_some bW;obtain rfl:=adN V mU;clear mU;split at fj
   case h_2=>simp[DT.val]at fj
   rename_i t aZ al;rw[al]at bW;simp only at bW;cases eH:F.cx.isTy U (.list t)
   ·rw[eH]at fj;simp[DT.val]at fj
   rw[eH,an]at bW fj;obtain ⟨⟨adX,tQ⟩,f1,fj⟩:=DT.val_bind_some fj;obtain ⟨⟨adY,axZ⟩,t1,bW⟩:=DT.val_bind_some bW;simp only at f1 t1 fj bW;have axx:adX=.ret:=by cases adX<;>first |rfl |simp[DT.val]at fj
   have axz:adY=.ret:=by cases adY<;>first |rfl |simp[DT.val]at bW
   subst axx axz;obtain ⟨mH,f2,fj⟩:=DT.val_bind_some fj;obtain ⟨z2,t2,bW⟩:=DT.val_bind_some bW;simp only[DT.val,bJ,c0]at fj bW;obtain ⟨rfl,rfl⟩:=fj;obtain ⟨rfl,rfl⟩:=bW;have afc: ∀b,(dL.regs.put I (.dat .bool b)).get I=some (.dat .bool b):=λb=>by rw[bR.get_put,if_pos rfl]
   refine .inr (.inr (.inl ⟨cd,M,λ_=> ?_,λh=>absurd rfl h⟩));refine .inr (.inr (.inr (.inr ⟨os,o,U,x,I,dL,t,aZ,⟨Ye ah,W,ao,bC,V,al,eH,λRX=>⟨λ_=> ?_,λh=>absurd rfl h⟩,⟨λ_=> ?_,λh=>absurd rfl h⟩⟩⟩)))
   ·have bI:=bY (by rw[RX];rfl);subst bI;exact .inr ⟨I,true,rfl,afc true,λ_=>kW.det ⟨.ret,axZ,t1,λh=>(by cases h),λ_=>⟨.inr rfl,t2⟩⟩,λh=>by cases h⟩
   ·exact .inr ⟨I,false,rfl,afc false,λh=>(by cases h),λ_=>kW.det ⟨.nrm,_,rfl,λ_=>kW.det ⟨.ret,tQ,f1,.inr rfl,f2⟩,λh=>absurd rfl h⟩⟩
theorem abT [Env] {P:cv} {F:bn} (tab:cN P F.cx) (c7:cc P F.Γ) (hm:P.follows .mixedOrders=true) {cT:aY} {fn:Func} (aM:P.funcs[cT.f]? =some fn) (L:fn.body=some (b4 fn)) (cC:ny fn cT.S cT.Z=true) (ad:ez (b4 fn) 0=[]) (c1:e0 (b4 fn)=false)
  (fk:F.m=cT.S.objs.length) (room:cT.S.ty.den->Bool) (out EF:cT.S.ty.den->cT.Z.ty.den) (n:cT.S.ty.den->Nat) (bC: ∀d,cT.g d=bif room d then some (out d) else none) (fj: ∀d,(Bt F fn cT.Z (b4 fn) (cT.S.enc d) false).val=bif room d then some (out d,n d) else none)
  (bW: ∀d,(Bt F fn cT.Z (b4 fn) (cT.S.enc d) true).val=some (EF d,n d)) (bY: ∀d,n d=0->EF d=out d):cz P cT:=by
 intro args J d z ah bI;rw[bC]at bI;cases ar:room d
 ·rw[ar]at bI;cases bI
 ·rw[ar,an]at bI;obtain rfl:=eW bI;have ael:=fj d;rw[ar,an]at ael;exact ats tab c7 hm aM L cC (by rw[ad];simp) c1 fk ah (arl (bW d) ael (bY d))
open Go.RowKit
abbrev ma (cx:cj) (Γ:hM) (Λ:Nat->bU->DT (ef×bU)) (m:Nat):bn:={cx:=cx,Γ:=Γ,Λ:=Λ,keep:=λ_=>none,m:=m}
def Fj [Env] (cx:cj) (Γ:hM) (f:FuncId) (fn:Func) (Δ:hM):hM:=Aj f (La (ma cx Γ (λ_ _=>.fail) 0) fn) Δ
section
variable {P:cv}
theorem w6 [Env] {F:bn} {nt k:Nat} {c:Code} (h: ∀st,F.Λ k st=.fail):hl P F nt k c:=λ_ st e bb φ ι w a bA _ _ a8=>by rw[h]at a8;cases a8
theorem AR [Env] {f:FuncId} {S Z:Shape}:cz P ⟨f,S,Z,λ_=>none⟩:=λ_ _ _ _ _ h=>by cases h
theorem xa: ∀(k:Nat) (l m:List K),fU k l=fU k m->l=m
 |_,[],[],_=>rfl
 |_,[],_::_,h=>by simp[fU]at h
 |_,_::_,[],h=>by simp[fU]at h
 |k,a::l,b::m,h=>by simp only[fU,List.cons.injEq,c0,true_and]at h;rw[h.1,xa (k+1) l m h.2]
theorem akX [Env] {f:FuncId} {fn:Func} (aM:P.funcs[f]? =some fn) (cC:(!(fn.name== "runtime.NumGoroutine")&& !fn.body.isNone)=true) {g:List UInt8->List UInt8->Int}
  (h: ∀(a b:ByteArray) (w:bk),Calls P f #[.string a,.string b] w λe aq=>e=.returned (.int .i64 (g a.data.toList b.data.toList))/\aq=w):
  cz P ⟨f,⟨[(0,.dat .str),(1,.dat .str)],[]⟩,⟨[(0,.dat (.int .i64))],[]⟩,λd=>some (g d.1 d.2.1,())⟩:=by
 intro args J d z ah bI;have gX:=Shape.dec_enc ah;obtain rfl:=eW bI;obtain ⟨a,b,ae⟩:=d;have iZ:(Shape.enc ⟨[(0,.dat .str),(1,.dat .str)],[]⟩ (a,b,ae))=⟨[(0,.dat .str a),(1,.dat .str b)],[]⟩:=rfl;have gX:=iZ.symm.trans gX;injection gX with q G
 obtain rfl:args=[.dat .str a,.dat .str b]:=(xa 0 [.dat .str a,.dat .str b] args q).symm;subst G;simp only[bQ,eT]at cC;refine ⟨⟨fn,aM,cC.1,cC.2⟩,fun φ ι w aP ek e2 fE fr=> ?_⟩;obtain ⟨v1,dH,M,ag,v2,cV,V,aS,hm⟩:=fE;simp only[K.relT]at hm;subst hm V;have gy:v1=.string ⟨⟨a⟩⟩:=cF.str.1 ag;have mU:v2=.string ⟨⟨b⟩⟩:=cF.str.1 aS;subst gy mU;obtain rfl:aP= #[.string ⟨⟨a⟩⟩,.string ⟨⟨b⟩⟩]:=by cases aP;simp at M;simp[M]
 refine (h ⟨⟨a⟩⟩ ⟨⟨b⟩⟩ w).mono ?_;rintro e aq ⟨rfl,rfl⟩;exact ⟨_,φ,ι,rfl,ek,Step.refl _ _ _ _,eo.refl _ _,h2 (cF.int.2 rfl),λi E=>absurd (show i∈([]:List Nat) from E) aU⟩
theorem akW [Env] {f:FuncId} {fn:Func} (aM:P.funcs[f]? =some fn) (cC:(!(fn.name== "runtime.NumGoroutine")&& !fn.body.isNone)=true) {g:List UInt8->Int->Int}
  (h: ∀(a:ByteArray) (c:Int) (w:bk),Calls P f #[.string a,.int .u8 c] w λe aq=>e=.returned (.int .i64 (g a.data.toList c))/\aq=w):
  cz P ⟨f,⟨[(0,.dat .str),(1,.dat (.int .u8))],[]⟩,⟨[(0,.dat (.int .i64))],[]⟩,λd=>some (g d.1 d.2.1,())⟩:=by
 intro args J d z ah bI;have gX:=Shape.dec_enc ah;obtain rfl:=eW bI;obtain ⟨a,b,ae⟩:=d;have iZ:(Shape.enc ⟨[(0,.dat .str),(1,.dat (.int .u8))],[]⟩ (a,b,ae))=⟨[(0,.dat .str a),(1,.dat (.int .u8) b)],[]⟩:=rfl;have gX:=iZ.symm.trans gX;injection gX with q G
 obtain rfl:args=[.dat .str a,.dat (.int .u8) b]:=(xa 0 [.dat .str a,.dat (.int .u8) b] args q).symm;subst G;simp only[bQ,eT]at cC;refine ⟨⟨fn,aM,cC.1,cC.2⟩,fun φ ι w aP ek e2 fE fr=> ?_⟩;obtain ⟨v1,dH,M,ag,v2,cV,V,aS,hm⟩:=fE;simp only[K.relT]at hm;subst hm V;have gy:v1=.string ⟨⟨a⟩⟩:=cF.str.1 ag;have mU:v2=.int .u8 b:=cF.int.1 aS;subst gy mU;obtain rfl:aP= #[.string ⟨⟨a⟩⟩,.int .u8 b]:=by cases aP;simp at M;simp[M]
 refine (h ⟨⟨a⟩⟩ b w).mono ?_;rintro e aq ⟨rfl,rfl⟩;exact ⟨_,φ,ι,rfl,ek,Step.refl _ _ _ _,eo.refl _ _,h2 (cF.int.2 rfl),λi E=>absurd (show i∈([]:List Nat) from E) aU⟩
end
open Go.RowKit
abbrev lC:=List (Nat×(bU->DT (ef×bU)))
def G1:lC->Option Nat->Option (bU->DT (ef×bU))
 |_,none=>none
 |[],some _=>none
 |(j,g)::l,some i=>bif Nat.beq i j then some g else G1 l (some i)
def gN [Env] (F:bn) (C:lC):Code->Nat->bU->DT (ef×bU)
 | .seq a b,k,st=>(gN F C a k st).bind λ(e,bb)=>match e with
  | .nrm=>match G1 C (pM b) with
   |some g=>g bb
   |none=>gN F C b k bb
  |e=>.leaf (e,bb)
 | .cond c a b,k,st=>match mB (h1 st.regs c) with
  |some t=>match c with
   | .tmp I=>.br t (gN F C a k ⟨refine st.regs I true,st.heap⟩) (gN F C b k ⟨refine st.regs I false,st.heap⟩)
   |_=>.br t (gN F C a k st) (gN F C b k st)
  |none=>.fail
 | .block id c,_,st=>(gN F C c id st).bind λ(e,bb)=>match e with
  | .exit i=>bif Nat.beq i id then .leaf (.nrm,bb) else .leaf (.exit i,bb)
  |e=>.leaf (e,bb)
 | .scope c,k,st=>gN F C c k st
 |c,k,st=>gb F c k st
def jV (C:lC):Code->List ((bU->DT (ef×bU))×Code)
 | .seq a b=>jV C a++(match G1 C (pM b) with |some g=>[(g,b)] |none=>jV C b)
 | .cond _ a b=>jV C a++jV C b
 | .block _ c=>jV C c
 | .scope c=>jV C c
 |_=>[]
def qI (i:Nat):Code->Option Code
 | .seq a b=>match qI i a with
  |some c=>some c
  |none=>match pM b with
   |some j=>bif Nat.beq i j then some b else qI i b
   |none=>qI i b
 | .cond _ a b=>match qI i a with |some c=>some c |none=>qI i b
 | .block _ c=>qI i c
 | .loop c=>qI i c
 | .scope c=>qI i c
 |_=>none
def eY (c:Code) (i:Nat):Code:=(qI i c).getD .skip
def jL [Env] (P:cv) (F:bn) (n:Nat) (g:bU->DT (ef×bU)) (c:Code):Prop:=
 ∀(nt:jy) (st:bU) (e:ef) (bb:bU) (φ:bL) (ι:Nat->az) (w:bk) (a:Act) (bA:Exit->Act->bk->Prop),nt.n=n->iL nt c->(g st).val=some (e,bb)->ds φ ι w nt st a->li F.m st.heap->
  (∀bs aq av aH,ds av aH aq nt bb bs->Step φ ι w st.heap av aH aq bb.heap->ie F.m ι st.heap aH bb.heap->bA (kZ e) bs aq)->c.wpIn (e9 nt.ro) 0 P bA a w
def Bk [Env] (P:cv) (F:bn) (nt:Nat):List ((bU->DT (ef×bU))×Code)->Prop
 |[]=>True
 |s::l=>jL P F nt s.1 s.2/\Bk P F nt l
theorem OV [Env] {P:cv} {F:bn} {nt:Nat} {C:lC} {c:Code} {m:List ((bU->DT (ef×bU))×Code)} (hm:jV C c=m) (h:Bk P F nt m): ∀s∈jV C c,jL P F nt s.1 s.2:=by
 rw[hm];clear hm
 induction m with
 |nil=>intro s aN;cases aN
 |cons p l aR=>
  intro s aN;rcases e7.1 aN with rfl |aN
  ·exact h.1
  ·exact aR h.2 s aN
section
variable {P:cv} {nt:jy} {F:bn} {C:lC}
theorem OA [Env] (tab:cN P F.cx) (c7:cc P F.Γ) (hm:P.follows .mixedOrders=true): ∀(c:Code) (k:Nat) (st:bU) (e:ef) (bb:bU) (φ:bL) (ι:Nat->az) (w:bk) (a:Act) (bA:Exit->Act->bk->Prop),(gN F C c k st).val=some (e,bb)->
  (∀s∈ez c k,hl P F nt.n s.1 s.2)->(∀s∈jV C c,jL P F nt.n s.1 s.2)->hx nt.n c=true->jR P F nt.n c->iL nt c->ds φ ι w nt st a->li F.m st.heap->
  (∀bs aq av aH,ds av aH aq nt bb bs->Step φ ι w st.heap av aH aq bb.heap->ie F.m ι st.heap aH bb.heap->bA (kZ e) bs aq)->c.wpIn (e9 nt.ro) 0 P bA a w:=by
 intro c
 induction c with
 |seq x y jr js=>
  intro k st e bb φ ι w a bA h ad eG aw c1 cq cn lm c8;simp only[gN]at h;obtain ⟨⟨M,cd⟩,q,G⟩:=DT.val_bind_some h;simp only[hx,bQ]at aw;refine wpIn_seq (jr k st M cd φ ι w a _ q (λs aN=>ad s (by simp[ez,aN])) (λs aN=>eG s (by simp[jV,aN])) aw.1 c1.1 (cq.of (λh=>by simp[e0,h]) (λh=>by simp[gA,h])) cn lm λbs aq av aH cY sp bZ=> ?_);cases M with
  |nrm=>
   simp only at G;cases bC:G1 C (pM y) with
   |some g=>
    rw[bC]at G;exact eG (g,y) (by simp[jV,bC]) nt cd e bb av aH aq bs bA rfl (cq.of (λh=>by simp[e0,h]) (λh=>by simp[gA,h])) G cY (bZ.live lm) λa2 da ee en kg pA m9=>c8 a2 da ee en kg (sp.trans pA) (bZ.trans m9)
   |none=>
    rw[bC]at G;exact js k cd e bb av aH aq bs bA G (λs aN=>ad s (by simp[ez,aN])) (λs aN=>eG s (by simp[jV,bC,aN])) aw.2 c1.2 (cq.of (λh=>by simp[e0,h]) (λh=>by simp[gA,h])) cY (bZ.live lm) λa2 da ee en kg pA m9=>c8 a2 da ee en kg (sp.trans pA) (bZ.trans m9)
  |exit i=>
   simp only[DT.val,bJ,c0]at G;obtain ⟨rfl,rfl⟩:=G;exact c8 bs aq av aH cY sp bZ
  |ret=>
   simp only[DT.val,bJ,c0]at G;obtain ⟨rfl,rfl⟩:=G;exact c8 bs aq av aH cY sp bZ
 |cond c x y jr js=>
  intro k st e bb φ ι w a bA h ad eG aw c1 cq cn lm c8;simp only[gN]at h;simp only[hx,bQ]at aw;split at h
  ·rename_i t aW;have a8:=NQ aW (cn.eval c).1;refine wpIn_cond a8 ?_;have key: ∀(gQ:bU),ds φ ι w nt gQ a->gQ.heap=st.heap->(bif t then (gN F C x k gQ).val else (gN F C y k gQ).val)=some (e,bb)->(if t then x else y).wpIn (e9 nt.ro) 0 P bA a w:=by
    intro gQ iI bg h;rw[<-bg]at lm c8;cases t
    ·simp only[ay]at h;simp only[Bool.false_eq_true,if_false];exact js k gQ e bb φ ι w a bA h (λs aN=>ad s (by simp[ez,aN])) (λs aN=>eG s (by simp[jV,aN])) aw.2 c1.2 (cq.of (λh=>by simp[e0,h]) (λh=>by simp[gA,h])) iI lm c8
    ·simp only[an]at h;simp only[if_true];exact jr k gQ e bb φ ι w a bA h (λs aN=>ad s (by simp[ez,aN])) (λs aN=>eG s (by simp[jV,aN])) aw.1 c1.1 (cq.of (λh=>by simp[e0,h]) (λh=>by simp[gA,h])) iI lm c8
   split at h
   ·rename_i I;have bO:st.regs.get I=some (.dat .bool t):=by
     simp only[h1]at aW;cases q5:Nat.beq I dJ with
     |true=>simp[q5,mB]at aW
     |false=>
     simp only[q5,ay]at aW;cases ao:st.regs.get I with
     |none=>rw[ao]at aW;simp[mB]at aW
     |some r=>
      rw[ao]at aW;have:=Ap (R:=st.regs) (I:=I) (b:=t) (by rw[ao];exact aW);rw[ao]at this;exact this
    have iI:ds φ ι w nt ⟨refine st.regs I t,st.heap⟩ a:=cn.regs_eq (tK bO);refine key ⟨refine st.regs I t,st.heap⟩ iI rfl ?_;cases t
    ·simp only[DT.val,ay]at h ⊢;exact h
    ·simp only[DT.val,an]at h ⊢;exact h
   ·exact key st cn rfl (by simpa only[DT.val] using h)
  ·simp[DT.val]at h
 |block id c aR=>
  intro k st e bb φ ι w a bA h ad eG aw c1 cq cn lm c8;simp only[gN]at h;obtain ⟨⟨M,cd⟩,q,G⟩:=DT.val_bind_some h;refine wpIn_block (aR id st M cd φ ι w a _ q (λs aN=>ad s (by simpa [ez] using aN)) (λs aN=>eG s (by simpa [jV] using aN)) aw c1 (cq.of (λh=>by simpa [e0] using h) (λh=>by simpa [gA] using h)) cn lm λbs aq av aH cY sp bZ=> ?_);cases M with
  |nrm=>
   simp only[DT.val,bJ,c0]at G;obtain ⟨rfl,rfl⟩:=G;exact c8 bs aq av aH cY sp bZ
  |exit i=>
   simp only at G;cases L:Nat.beq i id
   ·simp only[L,ay,DT.val,bJ,c0]at G;obtain ⟨rfl,rfl⟩:=G;have cw: ¬i=id:=λh=>by subst h;simp at L
    simp only[kZ,Exit.inBlock,if_neg cw];exact c8 bs aq av aH cY sp bZ
   ·simp only[L,an,DT.val,bJ,c0]at G;obtain ⟨rfl,rfl⟩:=G;have:i=id:=by simpa using L
    simp only[kZ,Exit.inBlock,if_pos this];exact c8 bs aq av aH cY sp bZ
  |ret=>
   simp only[DT.val,bJ,c0]at G;obtain ⟨rfl,rfl⟩:=G;exact c8 bs aq av aH cY sp bZ
 |scope c aR=>
  intro k st e bb φ ι w a bA h ad eG aw c1 cq cn lm c8;simp only[gN]at h;refine aba (aR k st e bb φ ι w a _ h (λs aN=>ad s (by simpa [ez] using aN)) (λs aN=>eG s (by simpa [jV] using aN)) aw c1 (cq.of (λh=>by simpa [e0] using h) (λh=>by simpa [gA] using h)) cn lm λbs aq av aH cY sp bZ=> ?_);have:=c8 bs aq av aH cY sp bZ;cases e<;>exact this
 |_=>
  intro k st e bb φ ι w a bA h ad eG aw c1 cq cn lm c8;exact nR tab c7 hm _ k st e bb φ ι w a bA (by simpa only[gN] using h) ad aw c1 cq cn lm c8
theorem lT [Env] {n:Nat} (tab:cN P F.cx) (c7:cc P F.Γ) (hm:P.follows .mixedOrders=true) {ax:bK} {c:Code} {k:Nat} {f:ax.S.ty.den->Option ax.Out} {l:List (Nat×Code)} {m:List ((bU->DT (ef×bU))×Code)} (ad:ez c k=l) (dS:oQ P F n l) (eG:jV C c=m) (q3:Bk P F n m) (aw:hx n c=true) (c1:jR P F n c)
  (aM: ∀d,((gN F C c k (ax.S.enc d)).bind λ(e,st)=>ax.out F.m e st).val=f d):jL P F n (ax.go f F.m) c:=by
 intro nt st e bb φ ι w a bA aO cq h cn lm c8;subst aO;unfold bK.go at h;obtain ⟨d,M,V⟩:=DT.val_bind_some h;obtain ⟨dE,fo,bd,a6,cp,eh,gZ⟩:=lJ M cn lm;obtain ⟨o,W,he⟩: ∃o,f d=some o/\(e,bb)=ax.fin o:=by
  cases j6:f d with
  |none=>simp[j6,DT.val]at V
  |some o=>
   refine ⟨o,rfl,?_⟩;cases o with
   |inl x=>simp only[j6,DT.val,bJ]at V;exact V.symm
   |inr y=>simp only[j6,DT.val,bJ]at V;exact V.symm
 have L:=(aM d).trans W;obtain ⟨⟨a1,n2⟩,q,G⟩:=DT.val_bind_some L;refine OA tab c7 hm c k _ a1 n2 dE fo w a _ q (uA ad dS) (OV eG q3) aw c1 cq bd (cp.live lm) λbs aq av aH cY sp bZ=> ?_
 obtain ⟨mj,ee,en,dH,cV,eV⟩:=bK.out_sound G cY (bZ.live (cp.live lm));have sZ:e=(ax.fin o).1/\bb=(ax.fin o).2:=by rw[<-he];exact ⟨rfl,rfl⟩
 rw[mj];have:=c8 bs aq ee en;rw[sZ.1,sZ.2]at this;exact this dH ((a6.trans sp).trans cV) ((cp.trans bZ).trans eV)
end
open Go.RowKit
def sr [Env] (F:bn) (C:lC) (fn:Func) (S Z:Shape) (d:S.ty.den):DT Z.ty.den:=
 (gN F C (fn.body.getD .skip) 0 (S.enc d)).bind λ(e,st)=>match e with
  | .exit _=>.fail
  |_=>((l1 F.cx st.regs 0 fn.results.toList).run st.heap st.heap.length .none).bind λ(R,h,_,_)=>Z.take F.m ⟨R,h⟩
def bK.bodyK [Env] (ax:bK) (F:bn) (C:lC) (c:Code) (k:Nat) (d:ax.S.ty.den):DT (ax.S.ty.den⊕ax.Out):=
 (gN F C c k (ax.S.enc d)).bind λ(e,st)=>match e with
  | .nrm=>(ax.S.take F.m st).bind λd=>.leaf (.inl d)
  |e=>(ax.out F.m e st).bind λo=>.leaf (.inr o)
section
variable {P:cv} {cx:cj} {Γ:hM} {φ:bL} {ι:Nat->az} {w:bk} {nt:jy} {st bb:bU} {a:Act} {J:List aG}
theorem arf [Env] {F:bn} {C:lC} (tab:cN P F.cx) (c7:cc P F.Γ) (hm:P.follows .mixedOrders=true) {ax:bK} {c:Code} {k:Nat} {f:ax.S.ty.den->Option ax.Out} (nN:F.Λ k=ax.go f F.m) {n:Nat} (dS: ∀s∈ez c k,hl P F n s.1 s.2) (q3: ∀s∈jV C c,jL P F n s.1 s.2) (aw:hx n c=true) (c1:jR P F n c)
  (aM: ∀d o,f d=some o-> ∃n,fY (λd=>(ax.bodyK F C c k d).val) n d=some o):hl P F n k c:=by
 intro nt st e bb φ ι w a bA aO cq h cn lm c8;subst aO;rw[nN]at h;unfold bK.go at h;obtain ⟨d,M,V⟩:=DT.val_bind_some h;obtain ⟨dE,fo,bd,a6,cp,eh,gZ⟩:=lJ M cn lm;obtain ⟨o,W,he⟩: ∃o,f d=some o/\(e,bb)=ax.fin o:=by
  cases j6:f d with
  |none=>simp[j6,DT.val]at V
  |some o=>
   refine ⟨o,rfl,?_⟩;cases o with
   |inl x=>simp only[j6,DT.val,bJ]at V;exact V.symm
   |inr y=>simp only[j6,DT.val,bJ]at V;exact V.symm
 obtain ⟨n,aO⟩:=aM d o W;refine wpIn_loop_rounds n ?_;have key: ∀n d φ ι w a,fY (λd=>(ax.bodyK F C c k d).val) n d=some o->ds φ ι w nt (ax.S.enc d) a->li F.m (ax.S.enc d).heap->
   (∀bs aq av aH,ds av aH aq nt (ax.fin o).2 bs->Step φ ι w (ax.S.enc d).heap av aH aq (ax.fin o).2.heap->ie F.m ι (ax.S.enc d).heap aH (ax.fin o).2.heap->bA (kZ (ax.fin o).1) bs aq)->Code.roundsIn (e9 nt.ro) 0 P c bA n a w:=by
  intro n
  induction n with
  |zero=>intro d φ ι w a h;cases h
  |succ n aR=>
   intro d φ ι w a h cn lm c8;simp only[fY]at h;rw[roundsIn_succ];cases L:(ax.bodyK F C c k d).val with
   |none=>simp[L]at h
   |some r=>
    simp only[L]at h;have h3:=L;unfold bK.bodyK at h3;obtain ⟨⟨M,cd⟩,q,G⟩:=DT.val_bind_some h3;refine OA tab c7 hm c k _ M cd φ ι w a _ q dS q3 aw c1 (cq.of (λh=>h) (λh=>h)) cn lm λbs aq av aH cY sp bZ=> ?_
    by_cases m3:M=.nrm
    ·subst m3;obtain ⟨t,ab,aE⟩:=DT.val_bind_some G;simp only[DT.val,bJ]at aE;subst aE;simp only at h;obtain ⟨ee,en,dH,cV,eV,lW,qe⟩:=lJ ab cY (bZ.live lm);exact aR t ee en aq bs h dH (eV.live (bZ.live lm)) λa2 da mJ mI DK SX Sr=>c8 a2 da mJ mI DK ((sp.trans cV).trans SX) ((bZ.trans eV).trans Sr)
    ·rw[ab0 m3];have bf:((ax.out F.m M cd).bind λo=>DT.leaf (Sum.inr (α:=ax.S.ty.den) o)).val=some r:=by
      cases M with
      |nrm=>exact absurd rfl m3
      |exit i=>exact G
      |ret=>exact G
     obtain ⟨jJ,ab,aE⟩:=DT.val_bind_some bf;simp only[DT.val,bJ]at aE;subst aE;simp only[bJ]at h;subst h;obtain ⟨mj,ee,en,dH,cV,eV⟩:=bK.out_sound ab cY (bZ.live lm);rw[mj];exact c8 bs aq ee en dH (sp.trans cV) (bZ.trans eV)
 have sZ:e=(ax.fin o).1/\bb=(ax.fin o).2:=by rw[<-he];exact ⟨rfl,rfl⟩
 refine key n d dE fo w a aO bd (cp.live lm) λbs aq av aH cY sp bZ=> ?_
 have:=c8 bs aq av aH;rw[sZ.1,sZ.2]at this;exact this cY (a6.trans sp) (cp.trans bZ)
theorem asB [Env] {F:bn} {C:lC} (tab:cN P F.cx) (c7:cc P F.Γ) (hm:P.follows .mixedOrders=true) {f:FuncId} {fn:Func} {c:Code} {S Z:Shape} (aM:P.funcs[f]? =some fn) (L:fn.body=some c) (cC:ny fn S Z=true) (dS: ∀s∈ez c 0,hl P F fn.ntmps s.1 s.2) (q3: ∀s∈jV C c,jL P F fn.ntmps s.1 s.2) (c1:jR P F fn.ntmps c)
  {args:List K} (fk:F.m=S.objs.length) {d:S.ty.den} {z:Z.ty.den} (ah:S.dec ⟨fU 0 args,J⟩=some d) (e:(sr F C fn S Z d).val=some z):kk P f args J (ki (Z.enc z).regs) (Z.enc z).heap:=by
 have gX:=Shape.dec_enc ah;simp only[ny,L,bQ,eT,dT]at cC;obtain ⟨⟨⟨⟨⟨⟨oB,jT⟩,h6⟩,iq⟩,nH⟩,nI⟩,nJ⟩:=cC;have h6:=hc h6;have iq:=hc iq;have iQ:args.length=S.regs.length/\J.length=S.objs.length:=by
  unfold Shape.dec at ah;simp only at ah;cases aV:jb S.regs (fU 0 args) with
  |none=>simp[aV]at ah
  |some x=>
   cases L:fW S.objs J with
   |none=>simp[aV,L]at ah
   |some y=>
    refine ⟨by rw[<-zm _ _ _ aV,(oH args 0).2.1],?_⟩;have: ∀(d:List dZ) (R:List aG) (l:List eN),fW d R=some l->R.length=d.length:=by
     intro d
     induction d with
     |nil=>intro R l h;cases R<;>simp[fW]at h ⊢
     |cons a d aR=>
      intro R l h;cases R with
      |nil=>simp[fW]at h
      |cons b R=>
       simp only[fW]at h;split at h
       ·obtain ⟨b,L,-⟩:=h9.1 h;simp[aR R b L]
       ·cases h
    exact this _ _ _ L
 unfold sr at e;rw[L]at e;simp only[Option.getD_some]at e;obtain ⟨⟨M,cd⟩,q,G⟩:=DT.val_bind_some e;have ab:M=.nrm\/M=.ret:=by
  cases M with
  |nrm=>exact .inl rfl
  |ret=>exact .inr rfl
  |exit i=>simp[DT.val]at G
 have aE:(((l1 F.cx cd.regs 0 fn.results.toList).run cd.heap cd.heap.length .none).bind λ(R,h,_,_)=>Z.take F.m ⟨R,h⟩).val=some z:=by rcases ab with rfl |rfl<;>exact G
 obtain ⟨⟨R,bf,pq,tB⟩,bF,dU⟩:=DT.val_bind_some aE;have kN:=HM.go_run _ _ _ _ _ _ _ _ bF;have kP:(Z.enc z).regs.map (·.1)=List.range' 0 fn.results.size:=by
  obtain ⟨⟨bb,bg,yP,pp⟩,bd,a6⟩:=DT.val_bind_some dU;simp only[DT.val_ofOpt]at a6;have cp:(Z.enc z).regs.map (·.1)=Z.regs.map (·.1):=by
   unfold Shape.dec at a6;cases aV:jb Z.regs bb.regs with
   |none=>simp[aV]at a6
   |some x=>
    cases L:fW Z.objs bb.heap with
    |none=>simp[aV,L]at a6
    |some y=>
     have:=rI _ _ x [] aV;rw[Shape.dec_enc (st:=bb) (by simp only[Shape.dec,aV,L]at a6 ⊢;exact a6)];exact v7 _ _ _ _ this
  rw[cp,nJ]
 refine ⟨⟨fn,aM,nH,by rw[L];rfl⟩,?_⟩
 ·intro φ ι w aP ek e2 fE fr;refine xq aM L ?_;have eL:aP.size=args.length:=by
   have: ∀(l:List K) (aP:List az),K.relT φ ι w l aP->aP.length=l.length:=by
    intro l
    induction l with
    |nil=>intro aP h;simp only[K.relT]at h;simp[h]
    |cons r l aR=>intro aP h;obtain ⟨v,m,rfl,-,h⟩:=h;simp[aR m h]
   simpa using this _ _ fE
  have ea:aP.size<=fn.ntmps:=by rw[eL,iQ.1];exact hc nI
  have lu:ds φ ι w ⟨fn.ntmps,w.heap.size,[],none,false⟩ (S.enc d) {tmps:=aP++Array.replicate (fn.ntmps-aP.size) undef,defers:=[]}:=by
   rw[gX];refine ⟨ek,λI r ao=> ?_,by simp;omega,h6,oa (ca _)⟩;obtain ⟨bd,a6,cp⟩:=oH args 0;obtain ⟨k,af,hU⟩:=nf _ 0 I r (by rw[bd,a6]) ao;have e1:I=k:=u;subst e1;have bO:=cp I (I,r) hU;simp only at bO;obtain ⟨v,a8,jq⟩:=ue fE bO;have fb:aP[I]? =some v:=by simpa using a8
   have lN:I<aP.size:=(kU.1 fb).1;have:(aP++Array.replicate (fn.ntmps-aP.size) undef).getD I undef=v:=by rw[jc,Array.getElem?_append_left lN,fb];rfl
   rw[iR u,this];exact ⟨jq,λi E=>fr i (tZ bO i E)⟩
  have pb:(S.enc d).heap=J:=by rw[gX]
  have jH:li F.m (S.enc d).heap:=by rw[pb,fk,<-iQ.2];exact λo W=>e2 o W
  refine OA tab c7 hm c 0 _ M cd φ ι w _ _ q dS q3 oB c1 (iL.fn jT) lu jH λbs aq av aH cY sp bZ=> ?_
  rw[pb]at sp;refine Ew ab cY sp λaq cY sp=> ?_
  have lo:=bZ.live jH;obtain ⟨bw,bS,us,dD,du,gq,hy⟩:=wi tab fn.results.toList 0 R cd.heap _ bf pq kN cY.heap cY.regs;have kq:R.length=us.length:=by have:=congrArg List.length gq;simpa [du] using this
  have kg:ds av aH aq ⟨us.toArray.size,0,[],none,false⟩ ⟨R,bf⟩ {tmps:=us.toArray,defers:=[]}:=by
   rw[bw];refine ⟨cY.heap,λI r ao=> ?_,rfl,by rw[List.size_toArray,du];simpa using iq,oa (Nat.zero_le _)⟩;obtain ⟨k,af,hU⟩:=nf R 0 I r (by rw[gq];congr 1;omega) ao;have e1:I=k:=u;subst e1;obtain ⟨v,a8,jq,gP⟩:=hy I (I,r) hU;have:us.toArray.getD I undef=v:=by simp[jc,a8]
   have lN:I<us.length:=(iK.1 a8).1;have RE:fn.results.toList.length=fn.results.size:=aU;rw[iR u];simp only[this];exact ⟨jq,gP⟩
  obtain ⟨ee,en,dH,cV,eV,lW,qe⟩:=lJ dU kg (by rw[bw];exact lo);have hR:(Z.enc z).regs.length=us.toArray.size:=by have:=congrArg List.length kP;simp only[List.length_map,List.length_range']at this;rw[this];simp[du]
  obtain ⟨ag,aS⟩:=uO (aP:=us.toArray) (R:=(Z.enc z).regs) (by rw[kP];congr 1;simpa [du] using hR.symm) hR (w5 (a:={tmps:=us.toArray,defers:=[]}) (by rw[kP];congr 1;simpa [du] using hR.symm) (by rw[hR,List.size_toArray,du];simpa using iq) dH.regs);have mu:=wj dD;refine ⟨_,mu,_,ee,en,rfl,dH.heap,?_,?_,ag,aS⟩
  ·rw[bw]at cV;exact sp.trans cV
  ·rw[pb]at bZ;rw[bw]at eV;have ka:=bZ.trans eV;refine ⟨λo W=> ?_,λo W=> ?_⟩
   ·have bu:o<F.m:=by rw[fk,<-iQ.2];exact gM W
    exact (ka o bu W).1
   ·have bu:o<F.m:=by rw[fk,<-iQ.2];exact gM W
    exact (ka o bu W).2
end
theorem arZ [Env] {P:cv} {F:bn} {C:lC} {nt:Nat} (tab:cN P F.cx) (c7:cc P F.Γ) (hm:P.follows .mixedOrders=true) {ax:bK} {c:Code} {k:Nat} {b:ax.S.ty.den->Option (ax.S.ty.den⊕ax.Out)} {f:ax.S.ty.den->Option ax.Out} (Rg: ∀d,f d=b6 b d) (nN:F.Λ k=ax.go f F.m)
  {l:List (Nat×Code)} {m:List ((bU->DT (ef×bU))×Code)} (ja:ez c k=l) (dS:oQ P F nt l) (vq:jV C c=m) (q3:Bk P F nt m) (aw:hx nt c=true) (c1:jR P F nt c) (L: ∀d,(ax.bodyK F C c k d).val=b d):hl P F nt k c:=by
 refine arf (C:=C) tab c7 hm nN (uA ja dS) (OV vq q3) aw c1 λd o h=> ?_
 rw[Rg]at h;obtain ⟨n,aO⟩:=Ou h;exact ⟨n,by rw[show (λd=>(ax.bodyK F C c k d).val)=b from funext L];exact aO⟩
theorem At [Env] {P:cv} {F:bn} {C:lC} (tab:cN P F.cx) (c7:cc P F.Γ) (hm:P.follows .mixedOrders=true) {cT:aY} {fn:Func} (aM:P.funcs[cT.f]? =some fn) (L:fn.body=some (b4 fn)) (cC:ny fn cT.S cT.Z=true)
  {l:List (Nat×Code)} {m:List ((bU->DT (ef×bU))×Code)} (ja:ez (b4 fn) 0=l) (dS:oQ P F fn.ntmps l) (vq:jV C (b4 fn)=m) (q3:Bk P F fn.ntmps m) (c1:jR P F fn.ntmps (b4 fn)) (fk:F.m=cT.S.objs.length) (bC: ∀d,(sr F C fn cT.S cT.Z d).val=cT.g d):cz P cT:=
 λargs J d z ah bI=>asB tab c7 hm aM L cC (uA ja dS) (OV vq q3) c1 fk ah ((bC d).trans bI)
end Go.X
