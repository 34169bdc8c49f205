import Derived.Test.YtmmmpanpbphkdaaGreatDoorPa
set_option linter.unusedVariables false
set_option linter.unusedSimpArgs false
set_option maxRecDepth 100000
open Go Go.X
open Go.IntKind (i64)
namespace D
open Go
open Go
abbrev ie:af->af:=fun s=>s
theorem agf (l:List af) (k:af) (ar:ck ie l) (ao:l.length<=100000):
  E9 (l,k,())=some ((cD ie k l:Int),eB (key:=ie) k l,()):=by
 have hle:=mY (key:=ie) k l;obtain ⟨r,aa,ad⟩:=yh (b:=EJ) (fun s=>(s.2.2.2.2.1-s.2.2.2.1).toNat)
  (fun s=> ∃I J:Nat,s=(l,k,(l.length:Int),(I:Int),(J:Int),())/\I<=J/\J<=l.length/\(∀(m:Nat) (h:m<l.length),m<I->Op.bytesLess (l[m]) k=true)/\(∀(m:Nat) (h:m<l.length),J<=m->Op.bytesLess (l[m]) k=false))
  (fun r=>r=.inl (l,k,(l.length:Int),(cD ie k l:Int),()))
  (fun s ab=>by
   obtain ⟨I,J,rfl,i1,i2,i3,i4⟩:=ab;have hm:=RZ (I:=I) (J:=J) (by omega);unfold EJ;simp only[hm];by_cases nu:I<J
   ·left;have a7:((I:Int)<(J:Int)):=by omega
    have cV:i64.wrap (((I+J)/2:Nat):Int)=(((I+J)/2:Nat):Int):=cU (by omega);have aY:((0:Int)<=(((I+J)/2:Nat):Int)):=by omega
    have c3:((((I+J)/2:Nat):Int)<(l.length:Int)):=by omega
    have bb:(I+J)/2<l.length:=by omega
    have bH:List.getD l ((I+J)/2) ([]:af)=l[(I+J)/2]:=cq bb;have c9:i64.wrap ((((I+J)/2:Nat):Int)+1)=(((I+J)/2+1:Nat):Int):=by rw[cU (by omega)];omega
    simp only[cV,a7,aY,c3,am,az,b7,bQ,bH,aqd,c9];cases ag:Op.bytesLess (l[(I+J)/2]) k
    ·simp only[aM];refine ⟨_,rfl,⟨I,(I+J)/2,rfl,by omega,by omega,i3,fun m h hm=> ?_⟩,by simp;omega⟩;rcases Nat.lt_or_ge m J with aZ |aZ
     ·cases dB:Op.bytesLess (l[m]) k
      ·rfl
      ·rcases Nat.eq_or_lt_of_le hm with bu |bu
       ·subst bu;rw[ag]at dB;cases dB
       ·have dq:Op.bytesLess (l[(I+J)/2]) (l[m])=true:=List.pairwise_iff_getElem.1 ar _ _ bb h bu;have:=e6 dq dB;rw[ag]at this;cases this
     ·exact i4 m h aZ
    ·simp only[az];refine ⟨_,rfl,⟨(I+J)/2+1,J,rfl,by omega,i2,fun m h hm=> ?_,i4⟩,by simp;omega⟩;rcases Nat.eq_or_lt_of_le (show m<=(I+J)/2 by omega) with bu |bu
     ·subst bu;exact ag
     ·have dq:Op.bytesLess (l[m]) (l[(I+J)/2])=true:=List.pairwise_iff_getElem.1 ar _ _ h bb bu;exact e6 dq ag
   ·right;have a7: ¬((I:Int)<(J:Int)):=by omega
    have he:I=J:=by omega
    subst he;simp only[a7,bg,aM,not_false_eq_true];refine ⟨_,rfl,?_⟩;have:=KF (key:=ie) k l ar I i2 i3 i4;rw[this])
  (l,k,(l.length:Int),(0:Int),(l.length:Int),()) ⟨0,l.length,by simp,by omega,by omega,fun m h hm=>by omega,fun m h hm=>by omega⟩ (by simp;omega)
 subst ad;have db:Nn (l,k,(l.length:Int),(0:Int),(l.length:Int),())=some (.inl (l,k,(l.length:Int),(cD ie k l:Int),())):=aa;simp only[E9,db];by_cases bb:cD ie k l<l.length
 ·have a7:((cD ie k l:Int)<(l.length:Int)):=by omega
  have aY:((0:Int)<=(cD ie k l:Int)):=by omega
  have bH:List.getD l (cD ie k l) ([]:af)=l[cD ie k l]:=cq bb;have ai: ∀a:af,(!decide (a=a))=false:=by simp
  simp only[a7,aY,am,az,b7,F1,ai,aM,bQ,bH];rw[D5 k l ar bb];by_cases he:l[cD ie k l]=k
  ·rw[am he];rfl
  ·rw[bg he];rfl
 ·have a7: ¬((cD ie k l:Int)<(l.length:Int)):=by omega
  simp only[a7,bg,aM,not_false_eq_true];rw[yt k l (by omega)]
theorem ZX (k:af): ∀(m:List af),(m.Pairwise fun a b=>Op.bytesLess a b=true)->hs k m=cD ie k m+(if eB (key:=ie) k m=true then 1 else 0)
 |[],_=>rfl
 |p::m,h=>by
  have al:=List.pairwise_cons.1 h;have aO:=ZX k m al.2;have ar0:eB (key:=ie) k (p::m)=(decide (p=k)||eB (key:=ie) k m):=rfl;have jq: ∀x:af,(∀q∈m,Op.bytesLess x q=true)->Op.bytesLess k x=true\/k=x->eB (key:=ie) k m=false:=by
   intro x aw N1;unfold eB;rw[List.any_eq_false];intro q aN e;have e:q=k:=of_decide_eq_true e;have:=aw q aN;rw[e]at this;rcases N1 with h |h
   ·rw[hJ h]at this;cases this
   ·rw[h,gN]at this;cases this
  have N2: ∀x:af,(∀q∈m,Op.bytesLess x q=true)->Op.bytesLess k x=true\/k=x->cD ie k m=0:=by
   intro x aw N1;cases m with
   |nil=>rfl
   |cons q m=>
    unfold cD;have aa:=aw q List.mem_cons_self;have ad:Op.bytesLess k q=true:=by
     rcases N1 with h |h
     ·exact e6 h aa
     ·rw[h];exact aa
    rw[if_neg (by show ¬Op.bytesLess q k=true;rw[hJ ad];simp)]
  unfold hs cD;rw[ar0];rcases hi p k with aP |aP |aP
  ·rw[if_neg (by rw[hJ aP];simp),if_pos aP,bg (js aP),Bool.false_or,aO];omega
  ·subst aP;have aa:=jq p al.1 (.inr rfl);have ad:=N2 p al.1 (.inr rfl);rw[if_neg (by rw[gN];simp),if_neg (by show ¬Op.bytesLess p p=true;rw[gN];simp),am rfl,Bool.true_or,if_pos rfl,aO,aa,ad];simp
  ·have aa:=jq p al.1 (.inl aP);rw[if_pos aP,if_neg (by show ¬Op.bytesLess p k=true;rw[hJ aP];simp),bg (fun e=>js aP e.symm),aa];simp
theorem ag0 (k:af) (ps:List af) (ar:ps.Pairwise fun a b=>Op.bytesLess a b=true) (ao:ps.length<=1000):Dx (k,ps,())=some ((hs k ps:Int),()):=by
 have aa:=agf ps k ar (by omega);have ad:=ZX k ps ar;have al:=mY (key:=ie) k ps;simp only[Dx,aa];cases ag:eB (key:=ie) k ps
 ·rw[ag]at ad;simp only[aM];rw[ad];simp
 ·rw[ag]at ad;simp only[az];rw[cU (by omega),ad];rfl
abbrev mw:ak:=(([]:af),(([]:af),((0:Int),())))
def jb (l:List ak) (k:af) (p:ak) (b:Bool):Prop:=(b=true->p∈l/\p.1=k)/\(b=false->p=mw/\ ∀q∈l,q.1≠k)
theorem jb.uniq {l:List ak} {k:af} (ar:ck bx l) {p q:ak} {b c:Bool} (aa:jb l k p b) (ad:jb l k q c):p=q/\b=c:=by
 cases b<;>cases c
 ·exact ⟨(aa.2 rfl).1.trans (ad.2 rfl).1.symm,rfl⟩
 ·obtain ⟨cZ,cr⟩:=ad.1 rfl;exact absurd cr ((aa.2 rfl).2 q cZ)
 ·obtain ⟨cZ,cr⟩:=aa.1 rfl;exact absurd cr ((ad.2 rfl).2 p cZ)
 ·obtain ⟨cZ,cr⟩:=aa.1 rfl;obtain ⟨cC,dk⟩:=ad.1 rfl;refine ⟨?_,rfl⟩;obtain ⟨i,ab,rfl⟩:=List.mem_iff_getElem.1 cZ;obtain ⟨j,ay,rfl⟩:=List.mem_iff_getElem.1 cC;rcases Nat.lt_trichotomy i j with h |h |h
  ·have:Op.bytesLess (l[i]).1 (l[j]).1=true:=List.pairwise_iff_getElem.1 ar _ _ ab ay h;exact absurd (cr.trans dk.symm) (js this)
  ·subst h;rfl
  ·have:Op.bytesLess (l[j]).1 (l[i]).1=true:=List.pairwise_iff_getElem.1 ar _ _ ay ab h;exact absurd (dk.trans cr.symm) (js this)
theorem agm (l:List ak) (k:af) (ar:ck bx l) (ao:l.length<=1000000000): ∃p b,Dc (l,k,())=some (p,b,())/\jb l k p b:=by
 have aa:=DU l k ar (by omega);simp only[Dc,aa];have hle:=mY (key:=bx) k l;cases ag:eB (key:=bx) k l
 ·refine ⟨_,_,rfl,fun h=>(by cases h),fun _=>⟨rfl,fun q aN e=> ?_⟩⟩;unfold eB at ag;rw[List.any_eq_false]at ag;exact ag q aN (am e)
 ·have bb:cD bx k l<l.length:=by
   rcases Nat.lt_or_ge (cD bx k l) l.length with h |h
   ·exact h
   ·rw[yt k l (by omega)]at ag;cases ag
  have a7:((cD bx k l:Int)<(l.length:Int)):=by omega
  have aY:((0:Int)<=(cD bx k l:Int)):=by omega
  have bH:List.getD l (cD bx k l) mw=l[cD bx k l]:=cq bb;simp only[a7,aY,am,az,b7,bQ,bH];refine ⟨_,_,rfl,fun _=>⟨List.getElem_mem bb,?_⟩,fun h=>(by cases h)⟩;rw[D5 k l ar bb]at ag;exact of_decide_eq_true ag
theorem Me {low C:List ak} {k:af} {S:Src} (dc: ∀x:ak,x.1=k->(x∈C↔nS S low x)) {p:ak} {b:Bool} (h: ∀k' st,S=.old k' st->jb low k' p b):
  ∃q c,CV (lD k S,p,b,())=some (q,c,())/\jb C k q c:=by
 cases S with
 |gen v n=>
  refine ⟨(k,v,n,()),true,rfl,fun _=>⟨(dc _ rfl).2 rfl,rfl⟩,fun h=>(by cases h)⟩
 |gone=>
  refine ⟨mw,false,rfl,fun h=>(by cases h),fun _=>⟨rfl,fun q aN e=> ?_⟩⟩;exact (dc q e).1 aN
 |old k' st=>
  have h:=h k' st rfl;cases b with
  |false=>
   obtain ⟨aa,ad⟩:=h.2 rfl;refine ⟨mw,false,rfl,fun h=>(by cases h),fun _=>⟨rfl,fun q aN e=> ?_⟩⟩;obtain ⟨y,bf,ai,-⟩:=(dc q e).1 aN;exact ad y bf ai
  |true=>
   obtain ⟨aa,ad⟩:=h.1 rfl;refine ⟨(k,p.2.1,st.getD p.2.2.1,()),true,?_,fun _=>⟨(dc _ rfl).2 ⟨p,aa,ad,rfl⟩,rfl⟩,fun h=>(by cases h)⟩;cases st<;>rfl
def xE (C:List ak) (k:af):List mN->af->List ak->Prop
 |[],h7,hB=>h7=k/\hB=C
 |f::fs,h7,hB=> ∃hr zB,(∀p b,jb hB h7 p b-> ∃q c,CV (f,p,b,())=some (q,c,())/\jb zB hr q c)/\xE C k fs hr zB
theorem agp (C:List ak) (k:af) (n:Int) (aQ:n>=1): ∀(fs:List mN) (h7:af) (hB:List ak) (p:ak) (b:Bool),fs.length<=1000->xE C k fs h7 hB->jb hB h7 p b->
  ∃q c,BZ (0,fs,p,b,n,())=some (.inl (0,q,c,n,()))/\jb C k q c:=by
 intro fs h7 hB p b ao aB aK;obtain ⟨r,aa,q,c,rfl,ad⟩:=yh (b:=tL) (fun s=>s.2.1.length) (fun s=>s.1=0/\s.2.2.2.2.1=n/\ ∃h7 hB,xE C k s.2.1 h7 hB/\jb hB h7 s.2.2.1 s.2.2.2.1) (fun r=> ∃q c,r=.inl (0,q,c,n,())/\jb C k q c)
  (fun s ab=>by
   obtain ⟨e,fs,p,b,aJ,u⟩:=s;obtain ⟨aa,ad,h7,hB,al,aE⟩:=ab;simp only at aa ad al aE;subst aa ad;cases fs with
   |nil=>
    right;obtain ⟨ai,aq⟩:=al;subst ai aq;exact ⟨_,rfl,p,b,rfl,aE⟩
   |cons x fs=>
    left;have ai:decide ((aJ:Int)>(0:Int))=true:=am (by omega);obtain ⟨hr,zB,aZ,bu⟩:=al;obtain ⟨q,c,aN,bH⟩:=aZ p b aE;simp only[tL,List.isEmpty_cons,aM,List.head?_cons,aN,List.tail_cons,ai,az];exact ⟨_,rfl,⟨rfl,rfl,hr,zB,bu,bH⟩,by simp⟩) (0,fs,p,b,n,()) ⟨rfl,rfl,h7,hB,aB,aK⟩ (by show fs.length<_;omega)
 exact ⟨q,c,aa,ad⟩
theorem jT {S ρ σ:Type} {b:S->Option (S⊕ρ)} (mk:σ->S) (μ:σ->Nat) (Inv:σ->Prop) (Q:σ->ρ->Prop)
  (h: ∀q,Inv q->(∃t,b (mk q)=some (.inl (mk t))/\Inv t/\μ t<μ q/\ ∀r,Q t r->Q q r)\/(∃r,b (mk q)=some (.inr r)/\Q q r)) (q:σ) (aN:Inv q) (hm:μ q<100000000000000000000):
  ∃r,bN b (mk q)=some r/\Q q r:=by
 have key: ∀(N:Nat) (q:σ),Inv q->μ q<N-> ∃r,dR b N (mk q)=some r/\Q q r:=by
  intro N
  induction N with
  |zero=>intro q _ h;omega
  |succ N aO=>
   intro q aN kE;rcases h q aN with ⟨t,aa,ad,al,aE⟩|⟨r,aa,ad⟩
   ·obtain ⟨r,aZ,bu⟩:=aO t ad (by omega);exact ⟨r,by simp only[dR,aa,aZ],aE r bu⟩
   ·exact ⟨r,by simp only[dR,aa],ad⟩
 obtain ⟨r,aa,ad⟩:=key (μ q+1) q aN (by omega);exact ⟨r,lB (by rw[jV];omega) aa,ad⟩
abbrev e8:ah:=(([]:af),(([]:af),()))
def bp (x y:ah):Bool:=Op.bytesLess x.1 y.1
theorem agN {a b c:af} (aa:Op.bytesLess a b=false) (ad:Op.bytesLess b c=false):Op.bytesLess a c=false:=mQ ad aa
theorem x0:Sort.SWO bp where
 irrefl:=fun x=>gN x.1
 trans:=fun x y z aa ad=>e6 aa ad
 ntrans:=fun x y z aa ad=>agN aa ad
theorem aoc (a b:af):Gc (a,b,())=some (la a b,()):=by
 have e: ∀a:af,(!decide (a=a))=false:=by simp
 simp only[Gc,tn,e,aM];unfold la;cases h:Op.bytesLess a b
 ·by_cases fg:a=b
  ·subst fg;simp
  ·simp[fg]
 ·simp
theorem kW (x y:ah):jJ (x,y,())=some (la x.1 y.1,()):=by
 simp only[jJ,aoc]
theorem kQ (x y:ah):decide (la x.1 y.1<0)=bp x y:=by
 unfold bp;cases h:Op.bytesLess x.1 y.1
 ·exact bg (by rw[D0,h];simp)
 ·exact am (D0.2 h)
theorem dO {i n:Nat} (h:i<n):(decide ((0:Int)<=(i:Int))&&decide ((i:Int)<(n:Int)))=true:=by
 rw[am (by omega),am (by omega)];rfl
theorem P4 {j:Nat} (h:j<4611686018427387904):i64.wrap (((j+1:Nat):Int)-1)=(j:Int):=by rw[cU (by omega)];omega
theorem fa {j:Nat} (h:j<4611686018427387904):i64.wrap ((j:Int)+1)=((j+1:Nat):Int):=by rw[cU (by omega)];omega
def e9 (l:List ah) (i j:Nat):List ah:=(l.set i (List.getD l j e8)).set j (List.getD l i e8)
theorem fA (l:List ah) (i j:Nat):(e9 l i j).length=l.length:=by simp[e9]
theorem fE (l:List ah) (i:Nat):(l.toArray)[i]! =List.getD l i e8:=by
 rw[List.getElem!_toArray,List.getElem!_eq_getElem?_getD];rfl
theorem jZ (l:List ah) (i j:Nat):Sort.swp l.toArray i j=(e9 l i j).toArray:=by
 unfold Sort.swp e9;simp only[fE,List.setIfInBounds_toArray]
theorem anQ (a b i:Nat) (l:List ah) (j:Nat) (ay:j<l.length) (ao:l.length<4611686018427387904):
  E0 ((a:Int),(b:Int),(i:Int),(j:Int),l,())=some (.inl ((a:Int),(b:Int),(i:Int),(Sort.insInner bp a j l.toArray).toList,())):=by
 obtain ⟨r,aa,ad⟩:=jT (b:=vb) (fun q:Nat×List ah=>((a:Int),(b:Int),(i:Int),(q.1:Int),q.2,())) (fun q=>q.1)
  (fun q=>q.1<q.2.length/\q.2.length<4611686018427387904) (fun q r=>r=.inl ((a:Int),(b:Int),(i:Int),(Sort.insInner bp a q.1 q.2.toArray).toList,()))
  (fun q aN=>by
   obtain ⟨j,l⟩:=q;obtain ⟨ay,ao⟩:=aN;simp only at ay ao;cases j with
   |zero=>
    right;refine ⟨_,?_,rfl⟩;have c: ¬(((0:Nat):Int)>(a:Int)):=by omega
    simp only[vb,zc,bg c,aM];rfl
   |succ j=>
    by_cases aR:j+1>a
    ·have c:(((j+1:Nat):Int)>(a:Int)):=by omega
     have w:=P4 (j:=j) (by omega);simp only[vb,zc,am c,az,dO ay,w,dO (show j<l.length by omega),kW,kQ,bQ,List.length_set];cases bb:bp (List.getD l (j+1) e8) (List.getD l j e8)
     ·right;refine ⟨_,rfl,?_⟩;unfold Sort.insInner;rw[fE,fE,bb];simp
     ·left;refine ⟨(j,e9 l (j+1) j),rfl,⟨by simp only[fA];omega,by simp only[fA];exact ao⟩,by simp,fun r aA=> ?_⟩;rw[aA];have:Sort.insInner bp a (j+1) l.toArray=Sort.insInner bp a j (e9 l (j+1) j).toArray:=by
       conv=>lhs;unfold Sort.insInner
       rw[fE,fE,bb,jZ];simp[aR]
      simp only[this]
    ·right;have c: ¬(((j+1:Nat):Int)>(a:Int)):=by omega
     refine ⟨_,?_,rfl⟩;simp only[vb,zc,bg c,aM];have:Sort.insInner bp a (j+1) l.toArray=l.toArray:=by
      unfold Sort.insInner;simp[aR]
     rw[this]) (j,l) ⟨ay,ao⟩ (by simp only;omega)
 rw[show E0 ((a:Int),(b:Int),(i:Int),(j:Int),l,())=some r from aa,ad]
theorem uE {α:Type} [Inhabited α] (d:Array α) (i j:Nat):(Sort.swp d i j).size=d.size:=by simp[Sort.swp]
theorem VX (a:Nat): ∀(j:Nat) (d:Array ah),(Sort.insInner bp a j d).size=d.size
 |0,_=>rfl
 |j+1,d=>by
  unfold Sort.insInner;split
  ·rw[VX a j,uE]
  ·rfl
theorem anI (a b:Nat) (l:List ah) (ag:b<=l.length) (ao:l.length<4611686018427387904) (fg:a<=b):
  EL ((a:Int),(b:Int),l,())=some ((Sort.insertionSort bp l.toArray a b).toList,()):=by
 obtain ⟨r,aa,ad⟩:=jT (b:=zA) (fun q:Nat×List ah=>((a:Int),(b:Int),(q.1:Int),q.2,())) (fun q=>b-q.1)
  (fun q=>b<=q.2.length/\q.2.length<4611686018427387904/\q.1<=b+1) (fun q r=>r=.inl ((Sort.insOuter bp a b q.1 q.2.toArray).toList,()))
  (fun q aN=>by
   obtain ⟨i,l⟩:=q;obtain ⟨ag,ao,ab⟩:=aN;simp only at ag ao ab;by_cases gY:i<b
   ·left;have c:((i:Int)<(b:Int)):=by omega
    have e:=anQ a b i l i (by omega) ao;have w:=fa (j:=i) (by omega);simp only[zA,am c,az,e,w];have ar:(Sort.insInner bp a i l.toArray).toList.length=l.length:=by rw[Array.length_toList,VX];rfl
    refine ⟨(i+1,(Sort.insInner bp a i l.toArray).toList),rfl,⟨by simp only[ar];exact ag,by simp only[ar];exact ao,by simp only;omega⟩,by simp only;omega,fun r aA=> ?_⟩;rw[aA];have:Sort.insOuter bp a b i l.toArray=Sort.insOuter bp a b (i+1) (Sort.insInner bp a i l.toArray):=by
     conv=>lhs;unfold Sort.insOuter
     rw[if_pos gY]
    simp only[this,Array.toArray_toList]
   ·right;have c: ¬((i:Int)<(b:Int)):=by omega
    refine ⟨_,?_,rfl⟩;have:Sort.insOuter bp a b i l.toArray=l.toArray:=by
     unfold Sort.insOuter;rw[if_neg gY]
    simp only[zA,bg c,aM,this]) (a+1,l) ⟨ag,ao,by simp only;omega⟩ (by simp only;omega)
 have w:=fa (j:=a) (by omega);have db:M8 ((a:Int),(b:Int),((a+1:Nat):Int),l,())=some r:=aa;subst ad;simp only[EL,w,db];rfl
theorem BN {i j:Nat} (h:i+j<9223372036854775808):i64.wrap ((i:Int)+(j:Int))=((i+j:Nat):Int):=by rw[cU (by omega)];omega
theorem Js: ∀(n ab first root:Nat) (d:Array ah),ab-root<=n->(Sort.siftDown bp ab first root d).size=d.size:=by
 intro n
 induction n with
 |zero=>
  intro ab first root d h
  unfold Sort.siftDown;rw[dif_pos (by omega)]
 |succ n aO=>
  intro ab first root d h
  unfold Sort.siftDown;split
  ·rfl
  ·split
   ·split
    ·rfl
    ·split
     ·rw[aO _ _ _ _ (by omega),uE]
     ·rfl
   ·split
    ·rfl
    ·rw[aO _ _ _ _ (by omega),uE]
theorem aaG (lo ab first:Nat) (l:List ah) (aa:first+ab<=l.length) (ad:l.length<4611686018427387904) (al:lo<=l.length):
  zF ((lo:Int),(ab:Int),(first:Int),l,())=some ((Sort.siftDown bp ab first lo l.toArray).toList,()):=by
 obtain ⟨r,g1,g2⟩:=jT (b:=sL) (fun q:Nat×List ah=>((ab:Int),(first:Int),(q.1:Int),q.2,())) (fun q=>ab+1-q.1)
  (fun q=>first+ab<=q.2.length/\q.2.length<4611686018427387904/\q.1<=q.2.length)
  (fun q r=>r=.inl ((Sort.siftDown bp ab first q.1 q.2.toArray).toList,())\/r=.inr ((Sort.siftDown bp ab first q.1 q.2.toArray).toList,()))
  (fun q aN=>by
   obtain ⟨root,l⟩:=q;obtain ⟨aa,ad,al⟩:=aN;simp only at aa ad al;have gy:i64.wrap (i64.wrap ((2:Int)*(root:Int))+1)=((2*root+1:Nat):Int):=by
    rw[cU (x:=2*(root:Int)) (by omega),cU (by omega)];omega
   by_cases aB:2*root+1>=ab
   ·right;have c:(((2*root+1:Nat):Int)>=(ab:Int)):=by omega
    refine ⟨_,?_,.inl rfl⟩;have e:Sort.siftDown bp ab first root l.toArray=l.toArray:=by
     unfold Sort.siftDown;rw[dif_pos aB]
    simp only[sL,gy,am c,az,e]
   ·have c: ¬(((2*root+1:Nat):Int)>=(ab:Int)):=by omega
    have cV:=fa (j:=2*root+1) (by omega);have c9:=BN (i:=first) (j:=2*root+1) (by omega);have fy:=fa (j:=first+(2*root+1)) (by omega);have PU:=BN (i:=first) (j:=root) (by omega);have tail: ∀kz:Nat,kz<ab->root<kz->(bp (List.getD l (first+root) e8) (List.getD l (first+kz) e8)=false->Sort.siftDown bp ab first root l.toArray=l.toArray)->
      (bp (List.getD l (first+root) e8) (List.getD l (first+kz) e8)=true->Sort.siftDown bp ab first root l.toArray=Sort.siftDown bp ab first kz (e9 l (first+root) (first+kz)).toArray)->
      (∃t:Nat×List ah,zp ((ab:Int),(first:Int),(root:Int),(kz:Int),l,())=some (.inl ((ab:Int),(first:Int),(t.1:Int),t.2,()))/\(first+ab<=t.2.length/\t.2.length<4611686018427387904/\t.1<=t.2.length)/\ab+1-t.1<ab+1-root/\
       ∀r,(r=.inl ((Sort.siftDown bp ab first t.1 t.2.toArray).toList,())\/r=.inr ((Sort.siftDown bp ab first t.1 t.2.toArray).toList,()))->(r=Sum.inl ((Sort.siftDown bp ab first root l.toArray).toList,())\/r=Sum.inr ((Sort.siftDown bp ab first root l.toArray).toList,())))\/
      (∃r,zp ((ab:Int),(first:Int),(root:Int),(kz:Int),l,())=some (.inr r)/\(r=Sum.inl ((Sort.siftDown bp ab first root l.toArray).toList,())\/r=Sum.inr ((Sort.siftDown bp ab first root l.toArray).toList,()))):=by
     intro kz lT bb ai aq;have avA:=BN (i:=first) (j:=kz) (by omega);simp only[zp,PU,avA,dO (show first+root<l.length by omega),dO (show first+kz<l.length by omega),az,bQ,kW,kQ,List.length_set];cases ag:bp (List.getD l (first+root) e8) (List.getD l (first+kz) e8)
     ·right;refine ⟨_,rfl,.inr ?_⟩;rw[ai ag]
     ·left;refine ⟨(kz,e9 l (first+root) (first+kz)),rfl,⟨by simp only[fA];exact aa,by simp only[fA];exact ad,by simp only[fA];omega⟩,by simp only;omega,fun r aA=> ?_⟩;rw[aq ag];exact aA
    by_cases kb:2*root+1+1<ab
    ·have aY:(((2*root+1+1:Nat):Int)<(ab:Int)):=by omega
     cases ag:bp (List.getD l (first+(2*root+1)) e8) (List.getD l (first+(2*root+1)+1) e8)
     ·have:=tail (2*root+1) (by omega) (by omega) (fun dB=>by
       unfold Sort.siftDown;rw[dif_neg aB];simp only[fE,ag,dB,Bool.and_false,dm,if_true,Bool.false_eq_true,if_false]) (fun dB=>by
       conv=>lhs;unfold Sort.siftDown
       rw[dif_neg aB];simp only[fE,jZ,ag,dB,Bool.and_false,du,Bool.false_eq_true,if_false])
      simp only[sL,zq,gy,cV,c9,fy,bg c,am aY,az,aM,dO (show first+(2*root+1)<l.length by omega),dO (show first+(2*root+1)+1<l.length by omega),bQ,kW,kQ,ag];exact this
     ·have:=tail (2*root+1+1) (by omega) (by omega) (fun dB=>by
       unfold Sort.siftDown;rw[dif_neg aB];simp only[fE,ag,dB,kb,cL,Bool.true_and,dm,if_true]) (fun dB=>by
       conv=>lhs;unfold Sort.siftDown
       rw[dif_neg aB];simp only[fE,jZ,ag,dB,kb,cL,Bool.true_and,du,Bool.false_eq_true,if_false,if_true];exact dif_pos trivial)
      simp only[sL,zq,gy,cV,c9,fy,bg c,am aY,az,aM,dO (show first+(2*root+1)<l.length by omega),dO (show first+(2*root+1)+1<l.length by omega),bQ,kW,kQ,ag];exact this
    ·have aY: ¬(((2*root+1+1:Nat):Int)<(ab:Int)):=by omega
     have:=tail (2*root+1) (by omega) (by omega) (fun dB=>by
      unfold Sort.siftDown;rw[dif_neg aB];simp only[fE,dB,kb,decide_false,Bool.false_and,dm,if_true,Bool.false_eq_true,if_false]) (fun dB=>by
      conv=>lhs;unfold Sort.siftDown
      rw[dif_neg aB];simp only[fE,jZ,dB,kb,decide_false,Bool.false_and,du,Bool.false_eq_true,if_false])
     simp only[sL,zq,gy,cV,bg c,bg aY,az,aM];exact this) (lo,l) ⟨aa,ad,al⟩ (by simp only;omega)
 have kD:OP ((ab:Int),(first:Int),(lo:Int),l,())=some r:=g1;simp only[zF,kD];rcases g2 with rfl |rfl<;>rfl
theorem Vp (ab first:Nat): ∀(k:Nat) (d:Array ah),(Sort.heapBuild bp ab first k d).size=d.size
 |0,_=>rfl
 |k+1,d=>by
  unfold Sort.heapBuild;rw[Vp ab first k,Js (ab-k) ab first k d (Nat.le_refl _)]
theorem ag6 (a b:Nat) (l:List ah) (fg:a<b) (ag:b<=l.length) (ao:l.length<4611686018427387904):
  Fg ((a:Int),(b:Int),l,())=some ((Sort.heapSort bp l.toArray a b).toList,()):=by
 obtain ⟨ab,iB⟩: ∃ab,b-a=ab:=⟨_,rfl⟩;have gy:i64.wrap ((b:Int)-(a:Int))=(ab:Int):=by rw[cU (by omega)];omega
 have PT:i64.wrap (Int.tdiv (i64.wrap ((ab:Int)-1)) 2)=((((ab-1)/2+1:Nat):Int)-1):=by
  have e:i64.wrap ((ab:Int)-1)=((ab-1:Nat):Int):=by rw[cU (by omega)];omega
  rw[e];have aq:Int.tdiv (((ab-1:Nat):Int)) 2=(((ab-1)/2:Nat):Int):=by
   rw[Int.tdiv_eq_ediv_of_nonneg (by omega)];rfl
  rw[aq,cU (by omega)];omega
 obtain ⟨r,g1,g2⟩:=jT (b:=zw) (fun q:Nat×List ah=>((a:Int),(0:Int),(ab:Int),(q.1:Int)-1,q.2,())) (fun q=>q.1)
  (fun q=>a+ab<=q.2.length/\q.2.length<4611686018427387904/\q.1<=q.2.length+1) (fun q r=>r=.inl ((a:Int),(0:Int),(ab:Int),(Sort.heapBuild bp ab a q.1 q.2.toArray).toList,()))
  (fun q aN=>by
   obtain ⟨k,l⟩:=q;obtain ⟨aa,ad,al⟩:=aN;simp only at aa ad al;cases k with
   |zero=>
    right;have c: ¬(((0:Nat):Int)-1>=0):=by omega
    refine ⟨_,?_,rfl⟩;simp only[zw,bg c,aM];rfl
   |succ k=>
    left;have e:(((k+1:Nat):Int)-1)=(k:Int):=by omega
    have c:((k:Int)>=0):=by omega
    have ar:=aaG k ab a l aa ad (by omega);have w:i64.wrap ((k:Int)-1)=(k:Int)-1:=cU (by omega);have di:(Sort.siftDown bp ab a k l.toArray).toList.length=l.length:=by rw[Array.length_toList,Js (ab-k) ab a k _ (Nat.le_refl _)];rfl
    simp only[zw,e,am c,az,ar,w];refine ⟨(k,(Sort.siftDown bp ab a k l.toArray).toList),rfl,⟨by simp only[di];exact aa,by simp only[di];exact ad,by simp only[di];omega⟩,by simp,fun r aA=> ?_⟩;rw[aA];simp only[Array.toArray_toList];rfl) ((ab-1)/2+1,l) ⟨by simp only;omega,ao,by simp only;omega⟩ (by simp only;omega)
 subst g2;have kD:NC ((a:Int),(0:Int),(ab:Int),((((ab-1)/2+1:Nat):Int)-1),l,())=some (.inl ((a:Int),(0:Int),(ab:Int),(Sort.heapBuild bp ab a ((ab-1)/2+1) l.toArray).toList,())):=g1;obtain ⟨m,hm⟩: ∃m,(Sort.heapBuild bp ab a ((ab-1)/2+1) l.toArray).toList=m:=⟨_,rfl⟩;have iU:m.length=l.length:=by rw[<-hm,Array.length_toList,Vp];rfl
 obtain ⟨r,a1,k2⟩:=jT (b:=zx) (fun q:Nat×List ah=>((a:Int),(0:Int),(q.1:Int)-1,q.2,())) (fun q=>q.1)
  (fun q=>a+q.1<=q.2.length/\q.2.length<4611686018427387904) (fun q r=>r=.inl ((Sort.heapPop bp a q.1 q.2.toArray).toList,()))
  (fun q aN=>by
   obtain ⟨k,l⟩:=q;obtain ⟨aa,ad⟩:=aN;simp only at aa ad;cases k with
   |zero=>
    right;have c: ¬(((0:Nat):Int)-1>=0):=by omega
    refine ⟨_,?_,rfl⟩;simp only[zx,bg c,aM];rfl
   |succ k=>
    left;have e:(((k+1:Nat):Int)-1)=(k:Int):=by omega
    have c:((k:Int)>=0):=by omega
    have c9:=BN (i:=a) (j:=k) (by omega);have ar:=aaG 0 k a (e9 l a (a+k)) (by rw[fA];omega) (by rw[fA];exact ad) (by omega);rw[Int.natCast_zero]at ar
    conv at ar=>lhs;unfold e9
    have w:i64.wrap ((k:Int)-1)=(k:Int)-1:=cU (by omega);have di:(Sort.siftDown bp k a 0 (e9 l a (a+k)).toArray).toList.length=l.length:=by rw[Array.length_toList,Js (k-0) k a 0 _ (Nat.le_refl _)];exact fA _ _ _
    simp only[zx,e,am c,az,c9,dO (show a+k<l.length by omega),dO (show a<l.length by omega),bQ,List.length_set,ar,w];refine ⟨(k,(Sort.siftDown bp k a 0 (e9 l a (a+k)).toArray).toList),rfl,⟨by simp only[di];omega,by simp only[di];exact ad⟩,by simp,fun r aA=> ?_⟩;rw[aA];simp only[Array.toArray_toList];show _=Sum.inl ((Sort.heapPop bp a k (Sort.siftDown bp k a 0 (Sort.swp l.toArray a (a+k)))).toList,());rw[jZ]) (ab,m) ⟨by simp only;omega,by simp only;omega⟩ (by simp only;omega)
 subst k2;have fy:i64.wrap ((ab:Int)-1)=(ab:Int)-1:=cU (by omega);have O0:OO ((a:Int),(0:Int),(ab:Int)-1,m,())=some (.inl ((Sort.heapPop bp a ab m.toArray).toList,())):=a1;have:Sort.heapSort bp l.toArray a b=Sort.heapPop bp a ab m.toArray:=by
  unfold Sort.heapSort;rw[iB,<-hm,Array.toArray_toList]
 rw[this];unfold Fg;dsimp only;rw[gy,PT,kD,hm];dsimp only;rw[fy,O0]
abbrev r9:Type:=(Int)×(Int)×(Int)×(List (ah))×Unit
abbrev fU (a i j:Nat) (l:List ah):r9:=((a:Int),(i:Int),(j:Int),l,())
theorem C9 (p:ah->Bool) (d:Array ah) (j i:Nat):Sort.scanUp p d j i=if i<=j&&p d[i]! then Sort.scanUp p d j (i+1) else i:=by
 conv=>lhs;unfold Sort.scanUp
theorem LU {b:r9->Option (r9⊕(r9⊕Unit))} (p:List ah->ah->Bool) (a j:Nat) (l:List ah) (aR:a<l.length) (ay:j<l.length) (ao:l.length<4611686018427387904)
  (ag: ∀i:Nat,b (fU a i j l)=bif decide ((i:Int)<=(j:Int)) then (bif decide ((0:Int)<=(i:Int))&&decide ((i:Int)<(l.length:Int)) then (bif p l (List.getD l i e8) then some (.inl ((a:Int),i64.wrap ((i:Int)+1),(j:Int),l,())) else some (.inr (.inl (fU a i j l)))) else none) else some (.inr (.inl (fU a i j l)))) (i:Nat):
  bN b (fU a i j l)=some (.inl (fU a (Sort.scanUp (p l) l.toArray j i) j l)):=by
 by_cases NX:i<=j
 ·obtain ⟨r,aa,ad⟩:=jT (b:=b) (fun i:Nat=>fU a i j l) (fun i=>j+1-i) (fun i=>i<=j+1) (fun i r=>r=.inl (fU a (Sort.scanUp (p l) l.toArray j i) j l))
   (fun i ab=>by
    simp only[ag];by_cases nu:i<=j
    ·have c:((i:Int)<=(j:Int)):=by omega
     have w:=fa (j:=i) (by omega);rw[am c,az,dO (show i<l.length by omega),az,w];cases aP:p l (List.getD l i e8)
     ·right;refine ⟨_,rfl,?_⟩;rw[C9,fE,aP];simp
     ·left;refine ⟨i+1,rfl,by omega,by omega,fun r aA=> ?_⟩;rw[C9,fE,aP];simp only[nu,cL,b7,if_true];exact aA
    ·right;have c: ¬((i:Int)<=(j:Int)):=by omega
     rw[bg c,aM];refine ⟨_,rfl,?_⟩;rw[C9];simp[nu]) i (by omega) (by omega)
  rw[aa,ad]
 ·have c: ¬((i:Int)<=(j:Int)):=by omega
  have bY:=ag i;rw[bg c,aM]at bY;have:Sort.scanUp (p l) l.toArray j i=i:=by rw[C9];simp[NX]
  rw[this];exact lB (n:=1) (by rw[jV];omega) (by simp only[dR,bY])
theorem K7 {b:r9->Option (r9⊕(r9⊕Unit))} (p:List ah->ah->Bool) (a i:Nat) (l:List ah) (aR:a<l.length) (ao:l.length<4611686018427387904) (ab:1<=i)
  (ag: ∀j:Nat,b (fU a i j l)=bif decide ((i:Int)<=(j:Int)) then (bif decide ((0:Int)<=(j:Int))&&decide ((j:Int)<(l.length:Int)) then (bif p l (List.getD l j e8) then some (.inl ((a:Int),(i:Int),i64.wrap ((j:Int)-1),l,())) else some (.inr (.inl (fU a i j l)))) else none) else some (.inr (.inl (fU a i j l)))) (j:Nat) (ay:j<l.length):
  bN b (fU a i j l)=some (.inl (fU a i (Sort.scanDown (p l) l.toArray i j) l)):=by
 obtain ⟨r,aa,ad⟩:=jT (b:=b) (fun j:Nat=>fU a i j l) (fun j=>j) (fun j=>j<l.length) (fun j r=>r=.inl (fU a i (Sort.scanDown (p l) l.toArray i j) l))
  (fun j ay=>by
   simp only[ag];cases j with
   |zero=>
    right;have c: ¬((i:Int)<=((0:Nat):Int)):=by omega
    rw[bg c,aM];exact ⟨_,rfl,rfl⟩
   |succ j=>
    by_cases nu:i<=j+1
    ·have c:((i:Int)<=((j+1:Nat):Int)):=by omega
     have w:=P4 (j:=j) (by omega);rw[am c,az,dO ay,az,w];cases aP:p l (List.getD l (j+1) e8)
     ·right;refine ⟨_,rfl,?_⟩;unfold Sort.scanDown;rw[fE,aP];simp
     ·left;refine ⟨j,rfl,by omega,by omega,fun r aA=> ?_⟩;rw[aA]
      conv=>rhs;unfold Sort.scanDown
      rw[fE,aP];simp only[nu,cL,b7,if_true]
    ·right;have c: ¬((i:Int)<=((j+1:Nat):Int)):=by omega
     rw[bg c,aM];refine ⟨_,rfl,?_⟩;unfold Sort.scanDown;simp[nu]) j ay (by omega)
 rw[aa,ad]
section
variable {a i j:Nat} {l:List ah}
theorem ahX (aR:a<l.length) (ay:j<l.length) (ao:l.length<4611686018427387904):MK (fU a i j l)=some (.inl (fU a (Sort.scanUp (fun x=> !bp (l.toArray)[a]! x) l.toArray j i) j l)):=by
 rw[fE];exact LU (b:=EC) (fun l x=> !bp (List.getD l a e8) x) a j l aR ay ao (fun i=>by
  simp only[EC,dO aR,az,kW,kQ,bQ]) i
theorem ahY (aR:a<l.length) (ay:j<l.length) (ao:l.length<4611686018427387904) (ab:1<=i):ML (fU a i j l)=some (.inl (fU a i (Sort.scanDown (fun x=>bp (l.toArray)[a]! x) l.toArray i j) l)):=by
 rw[fE];exact K7 (b:=ED) (fun l x=>bp (List.getD l a e8) x) a i l aR ao ab (fun j=>by
  simp only[ED,dO aR,az,kW,kQ,bQ]) j ay
theorem ahq (aR:a<l.length) (ay:j<l.length) (ao:l.length<4611686018427387904):Nc (fU a i j l)=some (.inl (fU a (Sort.scanUp (fun x=>bp x (l.toArray)[a]!) l.toArray j i) j l)):=by
 rw[fE];exact LU (b:=EO) (fun l x=>bp x (List.getD l a e8)) a j l aR ay ao (fun i=>by
  simp only[EO,dO aR,az,kW,kQ,bQ]) i
theorem a24 (aR:a<l.length) (ay:j<l.length) (ao:l.length<4611686018427387904):Nf (fU a i j l)=some (.inl (fU a (Sort.scanUp (fun x=>bp x (l.toArray)[a]!) l.toArray j i) j l)):=by
 rw[fE];exact LU (b:=ES) (fun l x=>bp x (List.getD l a e8)) a j l aR ay ao (fun i=>by
  simp only[ES,dO aR,az,kW,kQ,bQ]) i
theorem ahr (aR:a<l.length) (ay:j<l.length) (ao:l.length<4611686018427387904) (ab:1<=i):Nd (fU a i j l)=some (.inl (fU a i (Sort.scanDown (fun x=> !bp x (l.toArray)[a]!) l.toArray i j) l)):=by
 rw[fE];exact K7 (b:=EP) (fun l x=> !bp x (List.getD l a e8)) a i l aR ao ab (fun j=>by
  simp only[EP,dO aR,az,kW,kQ,bQ]) j ay
theorem ahs (aR:a<l.length) (ay:j<l.length) (ao:l.length<4611686018427387904) (ab:1<=i):Ng (fU a i j l)=some (.inl (fU a i (Sort.scanDown (fun x=> !bp x (l.toArray)[a]!) l.toArray i j) l)):=by
 rw[fE];exact K7 (b:=ET) (fun l x=> !bp x (List.getD l a e8)) a i l aR ao ab (fun j=>by
  simp only[ET,dO aR,az,kW,kQ,bQ]) j ay
end
theorem aoD: ∀(n a i j:Nat) (d:Array ah),j+1-i<=n->(Sort.partLoop bp a i j d).2.size=d.size/\(Sort.partLoop bp a i j d).1<=j:=by
 intro n
 induction n with
 |zero=>
  intro a i j d h;rw[Sort.partLoop_eq];have aa:=Sort.scanUp_ge (fun x=>bp x d[a]!) d j i;have ad:=Sort.scanDown_le (fun x=> !bp x d[a]!) d (Sort.scanUp (fun x=>bp x d[a]!) d j i) j;rw[if_pos (by omega)];exact ⟨rfl,ad⟩
 |succ n aO=>
  intro a i j d h;rw[Sort.partLoop_eq];have aa:=Sort.scanUp_ge (fun x=>bp x d[a]!) d j i;have ad:=Sort.scanDown_le (fun x=> !bp x d[a]!) d (Sort.scanUp (fun x=>bp x d[a]!) d j i) j;split
  ·exact ⟨rfl,ad⟩
  ·obtain ⟨al,aE⟩:=aO a (Sort.scanUp (fun x=>bp x d[a]!) d j i+1) (Sort.scanDown (fun x=> !bp x d[a]!) d (Sort.scanUp (fun x=>bp x d[a]!) d j i) j-1) (Sort.swp d (Sort.scanUp (fun x=>bp x d[a]!) d j i) (Sort.scanDown (fun x=> !bp x d[a]!) d (Sort.scanUp (fun x=>bp x d[a]!) d j i) j)) (by omega);rw[uE]at al;exact ⟨al,by omega⟩
theorem Np (i j:Nat):decide ((i:Int)>(j:Int))=decide (i>j):=by
 by_cases h:i>j
 ·rw[am h,am (by omega)]
 ·rw[bg h,bg (by omega)]
theorem ahi (a:Nat) (vC:0<=a) (i j:Nat) (l:List ah) (aR:a<i) (ay:j<l.length) (nh:a<l.length) (ao:l.length<4611686018427387904):
  EF (fU a i j l)=some (.inl (((Sort.partEqLoop bp a i j l.toArray).1:Int),(Sort.partEqLoop bp a i j l.toArray).2.toList,())):=by
 obtain ⟨r,aa,ad⟩:=jT (b:=EB) (fun q:Nat×Nat×List ah=>fU a q.1 q.2.1 q.2.2) (fun q=>q.2.1+1-q.1)
  (fun q=>a<q.1/\q.2.1<q.2.2.length/\a<q.2.2.length/\q.2.2.length<4611686018427387904)
  (fun q r=>r=.inl (((Sort.partEqLoop bp a q.1 q.2.1 q.2.2.toArray).1:Int),(Sort.partEqLoop bp a q.1 q.2.1 q.2.2.toArray).2.toList,()))
  (fun q aN=>by
   obtain ⟨i,j,l⟩:=q;obtain ⟨aR,ay,nh,ao⟩:=aN;simp only at aR ay nh ao;obtain ⟨i2,e0⟩: ∃x,Sort.scanUp (fun x=> !bp (l.toArray)[a]! x) l.toArray j i=x:=⟨_,rfl⟩;obtain ⟨dP,fR⟩: ∃x,Sort.scanDown (fun x=>bp (l.toArray)[a]! x) l.toArray i2 j=x:=⟨_,rfl⟩;have g1:=Sort.scanUp_ge (fun x=> !bp (l.toArray)[a]! x) l.toArray j i;have g2:=Sort.scanDown_le (fun x=>bp (l.toArray)[a]! x) l.toArray i2 j;rw[e0]at g1;rw[fR]at g2;have ai:=ahX (a:=a) (i:=i) (j:=j) (l:=l) nh ay ao;have aq:=ahY (a:=a) (i:=i2) (j:=j) (l:=l) nh ay ao (by omega);rw[e0]at ai;rw[fR]at aq;have eq:=Sort.partEqLoop_eq bp a i j l.toArray;rw[e0,fR]at eq;simp only[EB,ai,aq,Np i2 dP];by_cases lp:i2>dP
   ·right;rw[if_pos lp]at eq;rw[am lp,az,eq];exact ⟨_,rfl,rfl⟩
   ·left;rw[if_neg lp,jZ]at eq;have cV:i64.wrap ((dP:Int)-1)=((dP-1:Nat):Int):=by rw[cU (by omega)];omega
    have c9:=fa (j:=i2) (by omega);rw[bg lp,aM];simp only[dO (show dP<l.length by omega),dO (show i2<l.length by omega),az,List.length_set,bQ,cV,c9];refine ⟨(i2+1,dP-1,e9 l i2 dP),rfl,⟨by simp only;omega,by simp only[fA];omega,by simp only[fA];omega,by simp only[fA];omega⟩,by simp only;omega,fun r aA=> ?_⟩;rw[eq];exact aA) (i,j,l) ⟨aR,ay,nh,ao⟩ (by simp only;omega)
 rw[show EF (fU a i j l)=some r from aa,ad]
theorem ahk (a:Nat) (i j:Nat) (l:List ah) (aR:a<i) (ay:j<l.length) (nh:a<l.length) (ao:l.length<4611686018427387904):
  EU (fU a i j l)=some (.inl ((a:Int),((Sort.partLoop bp a i j l.toArray).1:Int),(Sort.partLoop bp a i j l.toArray).2.toList,())):=by
 obtain ⟨r,aa,ad⟩:=jT (b:=ER) (fun q:Nat×Nat×List ah=>fU a q.1 q.2.1 q.2.2) (fun q=>q.2.1+1-q.1)
  (fun q=>a<q.1/\q.2.1<q.2.2.length/\a<q.2.2.length/\q.2.2.length<4611686018427387904)
  (fun q r=>r=.inl ((a:Int),((Sort.partLoop bp a q.1 q.2.1 q.2.2.toArray).1:Int),(Sort.partLoop bp a q.1 q.2.1 q.2.2.toArray).2.toList,()))
  (fun q aN=>by
   obtain ⟨i,j,l⟩:=q;obtain ⟨aR,ay,nh,ao⟩:=aN;simp only at aR ay nh ao;obtain ⟨i2,e0⟩: ∃x,Sort.scanUp (fun x=>bp x (l.toArray)[a]!) l.toArray j i=x:=⟨_,rfl⟩;obtain ⟨dP,fR⟩: ∃x,Sort.scanDown (fun x=> !bp x (l.toArray)[a]!) l.toArray i2 j=x:=⟨_,rfl⟩;have g1:=Sort.scanUp_ge (fun x=>bp x (l.toArray)[a]!) l.toArray j i;have g2:=Sort.scanDown_le (fun x=> !bp x (l.toArray)[a]!) l.toArray i2 j;rw[e0]at g1;rw[fR]at g2;have ai:=a24 (a:=a) (i:=i) (j:=j) (l:=l) nh ay ao;have aq:=ahs (a:=a) (i:=i2) (j:=j) (l:=l) nh ay ao (by omega);rw[e0]at ai;rw[fR]at aq;have eq:=Sort.partLoop_eq bp a i j l.toArray;rw[e0,fR]at eq;simp only[ER,ai,aq,Np i2 dP];by_cases lp:i2>dP
   ·right;rw[if_pos lp]at eq;rw[am lp,az,eq];exact ⟨_,rfl,rfl⟩
   ·left;rw[if_neg lp,jZ]at eq;have cV:i64.wrap ((dP:Int)-1)=((dP-1:Nat):Int):=by rw[cU (by omega)];omega
    have c9:=fa (j:=i2) (by omega);rw[bg lp,aM];simp only[dO (show dP<l.length by omega),dO (show i2<l.length by omega),az,List.length_set,bQ,cV,c9];refine ⟨(i2+1,dP-1,e9 l i2 dP),rfl,⟨by simp only;omega,by simp only[fA];omega,by simp only[fA];omega,by simp only[fA];omega⟩,by simp only;omega,fun r aA=> ?_⟩;rw[eq];exact aA) (i,j,l) ⟨aR,ay,nh,ao⟩ (by simp only;omega)
 rw[show EU (fU a i j l)=some r from aa,ad]
theorem apB (a b p:Nat) (l:List ah) (fg:a<b) (aP:p<b) (ag:b<=l.length) (ao:l.length<4611686018427387904):
  zo ((a:Int),(b:Int),(p:Int),l,())=some (((Sort.partitionEqual bp l.toArray a b p).1:Int),(Sort.partitionEqual bp l.toArray a b p).2.toList,()):=by
 have cV:=fa (j:=a) (by omega);have c9:i64.wrap ((b:Int)-1)=((b-1:Nat):Int):=by rw[cU (by omega)];omega
 have e:=ahi a (Nat.zero_le _) (a+1) (b-1) (e9 l a p) (by omega) (by rw[fA];omega) (by rw[fA];omega) (by rw[fA];exact ao);unfold Sort.partitionEqual;rw[jZ]
 conv at e=>lhs;unfold e9
 simp only[zo,dO (show p<l.length by omega),dO (show a<l.length by omega),az,List.length_set,bQ,cV,c9,e]
theorem ahh (a b p:Nat) (l:List ah) (fg:a<b) (aP:p<b) (ag:b<=l.length) (ao:l.length<4611686018427387904):
  dl ((a:Int),(b:Int),(p:Int),l,())=some (((Sort.partition bp l.toArray a b p).1:Int),(Sort.partition bp l.toArray a b p).2.1,(Sort.partition bp l.toArray a b p).2.2.toList,()):=by
 have cV:=fa (j:=a) (by omega);have c9:i64.wrap ((b:Int)-1)=((b-1:Nat):Int):=by rw[cU (by omega)];omega
 obtain ⟨m,hm⟩: ∃m,e9 l a p=m:=⟨_,rfl⟩;have iU:m.length=l.length:=by rw[<-hm,fA]
 obtain ⟨i2,e0⟩: ∃x,Sort.scanUp (fun x=>bp x (m.toArray)[a]!) m.toArray (b-1) (a+1)=x:=⟨_,rfl⟩;obtain ⟨dP,fR⟩: ∃x,Sort.scanDown (fun x=> !bp x (m.toArray)[a]!) m.toArray i2 (b-1)=x:=⟨_,rfl⟩;have g1:=Sort.scanUp_ge (fun x=>bp x (m.toArray)[a]!) m.toArray (b-1) (a+1);have g2:=Sort.scanDown_le (fun x=> !bp x (m.toArray)[a]!) m.toArray i2 (b-1);rw[e0]at g1;rw[fR]at g2;have ai:=ahq (a:=a) (i:=a+1) (j:=b-1) (l:=m) (by omega) (by omega) (by omega);have aq:=ahr (a:=a) (i:=i2) (j:=b-1) (l:=m) (by omega) (by omega) (by omega) (by omega);rw[e0]at ai;rw[fR]at aq;have jk:Sort.partition bp l.toArray a b p=if i2>dP then (dP,true,Sort.swp m.toArray dP a) else ((Sort.partLoop bp a (i2+1) (dP-1) (Sort.swp m.toArray i2 dP)).1,false,Sort.swp (Sort.partLoop bp a (i2+1) (dP-1) (Sort.swp m.toArray i2 dP)).2 (Sort.partLoop bp a (i2+1) (dP-1) (Sort.swp m.toArray i2 dP)).1 a):=by
  unfold Sort.partition;rw[jZ,hm];simp only[e0,fR]
 rw[jk];have Ah:(l.set a (List.getD l p e8)).set p (List.getD l a e8)=m:=hm;simp only[dl,dO (show p<l.length by omega),dO (show a<l.length by omega),az,List.length_set,bQ,cV,c9,Ah,ai,aq,Np i2 dP];by_cases lp:i2>dP
 ·rw[am lp,az,if_pos lp,jZ];simp only[dO (show a<m.length by omega),dO (show dP<m.length by omega),az,List.length_set,bQ];rfl
 ·rw[bg lp,aM,if_neg lp,jZ];have fy:i64.wrap ((dP:Int)-1)=((dP-1:Nat):Int):=by rw[cU (by omega)];omega
  have jv:=fa (j:=i2) (by omega);have e:=ahk a (i2+1) (dP-1) (e9 m i2 dP) (by omega) (by rw[fA];omega) (by rw[fA];omega) (by rw[fA];omega);obtain ⟨s1,s2⟩:=aoD _ a (i2+1) (dP-1) (e9 m i2 dP).toArray (Nat.le_refl _);obtain ⟨R,kF⟩: ∃R,Sort.partLoop bp a (i2+1) (dP-1) (e9 m i2 dP).toArray=R:=⟨_,rfl⟩;rw[kF]at e s1 s2 ⊢;have hT:R.2.toList.length=l.length:=by rw[Array.length_toList,s1];show (e9 m i2 dP).length=_;rw[fA,iU]
  conv at e=>lhs;unfold e9
  have Oy:Sort.swp R.2 R.1 a=(e9 R.2.toList R.1 a).toArray:=by rw[<-jZ]
  rw[Oy];simp only[dO (show dP<m.length by omega),dO (show i2<m.length by omega),az,List.length_set,bQ,fy,jv,e,dO (show R.1<R.2.toList.length by omega),dO (show a<R.2.toList.length by omega)];rfl
theorem Iv (d:Array ah) (b i:Nat):Sort.scanSorted bp d b i=if i<b&& !bp d[i]! d[i-1]! then Sort.scanSorted bp d b (i+1) else i:=by
 conv=>lhs;unfold Sort.scanSorted
theorem amU: ∀(n b i:Nat) (d:Array ah),b-i<=n->i<=b->i<=Sort.scanSorted bp d b i/\Sort.scanSorted bp d b i<=b:=by
 intro n
 induction n with
 |zero=>
  intro b i d h ad;rw[Iv];have: ¬i<b:=by omega
  simp only[this,decide_false,Bool.false_and,Bool.false_eq_true,if_false];omega
 |succ n aO=>
  intro b i d h ad;rw[Iv];split
  ·rename_i aB;have bb:i<b:=by
    rw[bB,dd]at aB;exact aB.1
   have:=aO b (i+1) d (by omega) (by omega);omega
  ·omega
theorem Vh: ∀(j:Nat) (d:Array ah),(Sort.shiftDown bp j d).size=d.size
 |0,_=>rfl
 |j+1,d=>by
  unfold Sort.shiftDown;split
  ·rfl
  ·rw[Vh j,uE]
theorem Kp (b j:Nat) (d:Array ah):Sort.shiftUp bp b j d=if j<b then (if !bp d[j]! d[j-1]! then d else Sort.shiftUp bp b (j+1) (Sort.swp d j (j-1))) else d:=by
 conv=>lhs;unfold Sort.shiftUp
theorem anr: ∀(n b j:Nat) (d:Array ah),b-j<=n->(Sort.shiftUp bp b j d).size=d.size:=by
 intro n
 induction n with
 |zero=>
  intro b j d h;rw[Kp,if_neg (by omega)]
 |succ n aO=>
  intro b j d h;rw[Kp];split
  ·split
   ·rfl
   ·rw[aO _ _ _ (by omega),uE]
  ·rfl
theorem ahZ (a b s:Nat) (l:List ah) (ag:b<=l.length) (ao:l.length<4611686018427387904) (i:Nat) (ab:1<=i) (gY:i<=b):
  EH ((a:Int),(b:Int),(i:Int),(s:Int),l,())=some (.inl ((a:Int),(b:Int),((Sort.scanSorted bp l.toArray b i:Nat):Int),(s:Int),l,())):=by
 obtain ⟨r,aa,ad⟩:=jT (b:=zj) (fun i:Nat=>((a:Int),(b:Int),(i:Int),(s:Int),l,())) (fun i=>b-i) (fun i=>1<=i/\i<=b)
  (fun i r=>r=.inl ((a:Int),(b:Int),((Sort.scanSorted bp l.toArray b i:Nat):Int),(s:Int),l,()))
  (fun i ab=>by
   obtain ⟨aa,ad⟩:=ab;rw[Iv,fE,fE];by_cases gY:i<b
   ·have c:((i:Int)<(b:Int)):=by omega
    have w:i64.wrap ((i:Int)-1)=((i-1:Nat):Int):=by rw[cU (by omega)];omega
    have c9:=fa (j:=i) (by omega);simp only[zj,am c,az,dO (show i<l.length by omega),w,c9,dO (show i-1<l.length by omega),kW,kQ,bQ];cases bb:bp (List.getD l i e8) (List.getD l (i-1) e8)
    ·left;refine ⟨i+1,rfl,by omega,by omega,fun r aA=> ?_⟩;simp only[gY,cL,dm,b7,if_true];exact aA
    ·right;refine ⟨_,rfl,?_⟩;simp
   ·right;have c: ¬((i:Int)<(b:Int)):=by omega
    simp only[zj,bg c,aM];refine ⟨_,rfl,?_⟩;simp[gY]) i ⟨ab,gY⟩ (by omega)
 rw[show EH ((a:Int),(b:Int),(i:Int),(s:Int),l,())=some r from aa,ad]
theorem ah0 (a b i s:Nat) (j:Nat) (l:List ah) (ay:j<l.length) (ao:l.length<4611686018427387904):
  EI ((a:Int),(b:Int),(i:Int),(s:Int),(j:Int),l,())=some (.inl ((a:Int),(b:Int),(i:Int),(s:Int),(Sort.shiftDown bp j l.toArray).toList,())):=by
 obtain ⟨r,aa,ad⟩:=jT (b:=zk) (fun q:Nat×List ah=>((a:Int),(b:Int),(i:Int),(s:Int),(q.1:Int),q.2,())) (fun q=>q.1) (fun q=>q.1<q.2.length/\q.2.length<4611686018427387904)
  (fun q r=>r=.inl ((a:Int),(b:Int),(i:Int),(s:Int),(Sort.shiftDown bp q.1 q.2.toArray).toList,()))
  (fun q aN=>by
   obtain ⟨j,l⟩:=q;obtain ⟨ay,ao⟩:=aN;simp only at ay ao;cases j with
   |zero=>
    right;refine ⟨_,?_,rfl⟩;have c: ¬(((0:Nat):Int)>=1):=by omega
    simp only[zk,bg c,aM];rfl
   |succ j=>
    have c:(((j+1:Nat):Int)>=1):=by omega
    have w:=P4 (j:=j) (by omega);simp only[zk,am c,az,dO ay,w,dO (show j<l.length by omega),kW,kQ,bQ,List.length_set];cases bb:bp (List.getD l (j+1) e8) (List.getD l j e8)
    ·right;refine ⟨_,rfl,?_⟩;unfold Sort.shiftDown;rw[fE,fE,bb];rfl
    ·left;refine ⟨(j,e9 l (j+1) j),rfl,⟨by simp only[fA];omega,by simp only[fA];exact ao⟩,by simp,fun r aA=> ?_⟩;rw[aA];have:Sort.shiftDown bp (j+1) l.toArray=Sort.shiftDown bp j (e9 l (j+1) j).toArray:=by
      conv=>lhs;unfold Sort.shiftDown
      rw[fE,fE,bb,jZ];rfl
     simp only[this]) (j,l) ⟨ay,ao⟩ (by simp only;omega)
 rw[show EI ((a:Int),(b:Int),(i:Int),(s:Int),(j:Int),l,())=some r from aa,ad]
theorem ah1 (a b i s:Nat) (j:Nat) (l:List ah) (ay:1<=j) (Ac:j<=b+1) (ag:b<=l.length) (ao:l.length<4611686018427387904):
  co ((a:Int),(b:Int),(i:Int),(s:Int),(j:Int),l,())=some (.inl ((a:Int),(b:Int),(i:Int),(s:Int),(Sort.shiftUp bp b j l.toArray).toList,())):=by
 obtain ⟨r,aa,ad⟩:=jT (b:=zl) (fun q:Nat×List ah=>((a:Int),(b:Int),(i:Int),(s:Int),(q.1:Int),q.2,())) (fun q=>b-q.1) (fun q=>1<=q.1/\q.1<=b+1/\b<=q.2.length/\q.2.length<4611686018427387904)
  (fun q r=>r=.inl ((a:Int),(b:Int),(i:Int),(s:Int),(Sort.shiftUp bp b q.1 q.2.toArray).toList,()))
  (fun q aN=>by
   obtain ⟨j,l⟩:=q;obtain ⟨ay,Ac,ag,ao⟩:=aN;simp only at ay Ac ag ao;have hu:=Kp b j l.toArray;rw[fE,fE,jZ]at hu;by_cases bb:j<b
   ·have c:((j:Int)<(b:Int)):=by omega
    have w:i64.wrap ((j:Int)-1)=((j-1:Nat):Int):=by rw[cU (by omega)];omega
    have c9:=fa (j:=j) (by omega);rw[if_pos bb]at hu;simp only[zl,am c,az,dO (show j<l.length by omega),w,c9,dO (show j-1<l.length by omega),kW,kQ,bQ,List.length_set];cases aB:bp (List.getD l j e8) (List.getD l (j-1) e8)
    ·right;refine ⟨_,rfl,?_⟩;rw[aB]at hu;rw[hu];rfl
    ·left;rw[aB]at hu;refine ⟨(j+1,e9 l j (j-1)),rfl,⟨by simp only;omega,by simp only;omega,by simp only[fA];exact ag,by simp only[fA];exact ao⟩,by simp only;omega,fun r aA=> ?_⟩;rw[aA,hu];rfl
   ·right;have c: ¬((j:Int)<(b:Int)):=by omega
    rw[if_neg bb]at hu;simp only[zl,bg c,aM,hu];exact ⟨_,rfl,rfl⟩) (j,l) ⟨ay,Ac,ag,ao⟩ (by simp only;omega)
 rw[show co ((a:Int),(b:Int),(i:Int),(s:Int),(j:Int),l,())=some r from aa,ad]
theorem ao6 (a b:Nat) (l:List ah) (fg:a<b) (ag:b<=l.length) (ao:l.length<4611686018427387904):
  zb ((a:Int),(b:Int),l,())=some ((Sort.partialInsertionSort bp l.toArray a b).2,(Sort.partialInsertionSort bp l.toArray a b).1.toList,()):=by
 obtain ⟨r,aa,ad⟩:=jT (b:=bv) (fun q:Nat×Nat×List ah=>((a:Int),(b:Int),(q.2.1:Int),((5-q.1:Nat):Int),q.2.2,())) (fun q=>q.1)
  (fun q=>q.1<=5/\a+1<=q.2.1/\q.2.1<=b/\b<=q.2.2.length/\q.2.2.length<4611686018427387904)
  (fun q r=>r=.inl ((Sort.partialIns bp a b q.1 q.2.1 q.2.2.toArray).2,(Sort.partialIns bp a b q.1 q.2.1 q.2.2.toArray).1.toList,())\/((Sort.partialIns bp a b q.1 q.2.1 q.2.2.toArray).2=false/\r=.inr ((Sort.partialIns bp a b q.1 q.2.1 q.2.2.toArray).1.toList,())))
  (fun q aN=>by
   obtain ⟨k,i,l⟩:=q;obtain ⟨av,ab,gY,ag,ao⟩:=aN;simp only at av ab gY ag ao;cases k with
   |zero=>
    right;refine ⟨_,?_,.inr ⟨rfl,rfl⟩⟩;have c: ¬(((5-0:Nat):Int)<5):=by omega
    simp only[bv,bg c,aM];rfl
   |succ k=>
    have c:(((5-(k+1):Nat):Int)<5):=by omega
    have ws:i64.wrap (((5-(k+1):Nat):Int)+1)=((5-k:Nat):Int):=by rw[cU (by omega)];omega
    have ai:=ahZ a b (5-(k+1)) l ag ao i (by omega) gY;obtain ⟨i2,e0⟩: ∃x,Sort.scanSorted bp l.toArray b i=x:=⟨_,rfl⟩;have g:=amU _ b i l.toArray (Nat.le_refl _) gY;rw[e0]at ai g;have jk:Sort.partialIns bp a b (k+1) i l.toArray=if i2=b then (l.toArray,true) else if b-a<50 then (l.toArray,false) else
      Sort.partialIns bp a b k i2 (if b-i2>=2 then Sort.shiftUp bp b (i2+1) (if i2-a>=2 then Sort.shiftDown bp (i2-1) (e9 l i2 (i2-1)).toArray else (e9 l i2 (i2-1)).toArray) else (if i2-a>=2 then Sort.shiftDown bp (i2-1) (e9 l i2 (i2-1)).toArray else (e9 l i2 (i2-1)).toArray)):=by
     rw[<-jZ]
     conv=>lhs;unfold Sort.partialIns
     simp only[e0]
    rw[jk];simp only[bv,am c,az,ai];by_cases dB:i2=b
    ·right;have aY:((i2:Int)=(b:Int)):=by omega
     rw[am aY,az,if_pos dB];exact ⟨_,rfl,.inl rfl⟩
    ·have aY: ¬((i2:Int)=(b:Int)):=by omega
     have gy:i64.wrap ((b:Int)-(a:Int))=((b-a:Nat):Int):=by rw[cU (by omega)];omega
     rw[bg aY,aM,if_neg dB,gy];by_cases Nq:b-a<50
     ·right;have c3:(((b-a:Nat):Int)<50):=by omega
      rw[am c3,az,if_pos Nq];exact ⟨_,rfl,.inl rfl⟩
     ·left;have c3: ¬(((b-a:Nat):Int)<50):=by omega
      have cV:i64.wrap ((i2:Int)-1)=((i2-1:Nat):Int):=by rw[cU (by omega)];omega
      have c9:i64.wrap ((i2:Int)-(a:Int))=((i2-a:Nat):Int):=by rw[cU (by omega)];omega
      have fy:i64.wrap ((b:Int)-(i2:Int))=((b-i2:Nat):Int):=by rw[cU (by omega)];omega
      have jv:=fa (j:=i2) (by omega);rw[bg c3,aM,if_neg Nq];have half: ∀m:List ah,m.length=l.length->
        ∃cr:List ah,zi ((a:Int),(b:Int),(i2:Int),((5-(k+1):Nat):Int),m,())=some (.inl ((a:Int),(b:Int),(i2:Int),((5-k:Nat):Int),cr,()))/\cr.length=l.length/\
         cr.toArray=(if b-i2>=2 then Sort.shiftUp bp b (i2+1) m.toArray else m.toArray):=by
       intro m hm;by_cases ad:b-i2>=2
       ·have c5:(((b-i2:Nat):Int)>=2):=by omega
        have bc:=ah1 a b i2 (5-(k+1)) (i2+1) m (by omega) (by omega) (by omega) (by omega);refine ⟨(Sort.shiftUp bp b (i2+1) m.toArray).toList,?_,?_,?_⟩
        ·simp only[zi,fy,am c5,az,jv,bc,ws]
        ·rw[Array.length_toList,anr _ _ _ _ (Nat.le_refl _)];exact hm
        ·rw[if_pos ad,Array.toArray_toList]
       ·have c5: ¬(((b-i2:Nat):Int)>=2):=by omega
        refine ⟨m,?_,hm,by rw[if_neg ad]⟩;simp only[zi,fy,bg c5,aM,ws]
      simp only[cV,c9,dO (show i2-1<l.length by omega),dO (show i2<l.length by omega),az,bQ,List.length_set];have Oy:(l.set i2 (List.getD l (i2-1) e8)).set (i2-1) (List.getD l i2 e8)=e9 l i2 (i2-1):=rfl;rw[Oy];by_cases ad:i2-a>=2
      ·have fe:(((i2-a:Nat):Int)>=2):=by omega
       have aq:=ah0 a b i2 (5-(k+1)) (i2-1) (e9 l i2 (i2-1)) (by rw[fA];omega) (by rw[fA];exact ao);obtain ⟨cr,f1,f2,f3⟩:=half (Sort.shiftDown bp (i2-1) (e9 l i2 (i2-1)).toArray).toList (by rw[Array.length_toList,Vh];exact fA _ _ _);rw[am fe,az];simp only[aq,f1];refine ⟨(k,i2,cr),rfl,⟨by simp only;omega,by simp only;omega,by simp only;omega,by simp only;omega,by simp only;omega⟩,by simp,fun r aA=> ?_⟩;rw[if_pos ad];simp only[f3,Array.toArray_toList]at aA;exact aA
      ·have fe: ¬(((i2-a:Nat):Int)>=2):=by omega
       obtain ⟨cr,f1,f2,f3⟩:=half (e9 l i2 (i2-1)) (fA _ _ _);rw[bg fe,aM];simp only[f1];refine ⟨(k,i2,cr),rfl,⟨by simp only;omega,by simp only;omega,by simp only;omega,by simp only;omega,by simp only;omega⟩,by simp,fun r aA=> ?_⟩;rw[if_neg ad];simp only[f3]at aA;exact aA) (5,a+1,l) ⟨by simp,by simp,by simp only;omega,ag,ao⟩ (by simp)
 have w:=fa (j:=a) (by omega);have db:Mw ((a:Int),(b:Int),((a+1:Nat):Int),(0:Int),l,())=some r:=aa;unfold zb;dsimp only;rw[w,db];rcases ad with rfl |⟨al,rfl⟩
 ·rfl
 ·have al:(Sort.partialInsertionSort bp l.toArray a b).2=false:=al;rw[al];rfl
theorem K4 (a b:Nat) (l:List ah) (s:Int) (aR:a<l.length) (ag:b<l.length):
  ∃x y:Nat,∃gg:Int,vj ((a:Int),(b:Int),l,s,())=some ((x:Int),(y:Int),l,gg,())/\((x=a/\y=b)\/(x=b/\y=a)):=by
 simp only[vj,dO ag,dO aR,az,bQ,kW,kQ];cases bp (List.getD l b e8) (List.getD l a e8)
 ·exact ⟨a,b,_,rfl,.inl ⟨rfl,rfl⟩⟩
 ·exact ⟨b,a,_,rfl,.inr ⟨rfl,rfl⟩⟩
theorem Zg (a b c:Nat) (l:List ah) (s:Int) (aR:a<l.length) (ag:b<l.length) (aB:c<l.length):
  ∃x:Nat,∃gg:Int,zD ((a:Int),(b:Int),(c:Int),l,s,())=some ((x:Int),l,gg,())/\(x=a\/x=b\/x=c):=by
 obtain ⟨mg,hx,s1,ai,aa⟩:=K4 a b l s aR ag;obtain ⟨mW,jw,s2,aq,ad⟩:=K4 hx c l s1 (by omega) aB;obtain ⟨rS,y3,hT,bc,al⟩:=K4 mg mW l s2 (by omega) (by omega);simp only[zD,ai,aq,bc];exact ⟨y3,_,rfl,by omega⟩
theorem K2 (a:Nat) (l:List ah) (s:Int) (aR:1<=a) (ag:a+1<l.length) (ao:l.length<4611686018427387904):
  ∃x:Nat,∃gg:Int,vf ((a:Int),l,s,())=some ((x:Int),l,gg,())/\a-1<=x/\x<=a+1:=by
 have cV:i64.wrap ((a:Int)-1)=((a-1:Nat):Int):=by rw[cU (by omega)];omega
 have c9:=fa (j:=a) (by omega);obtain ⟨x,gg,e,h⟩:=Zg (a-1) a (a+1) l s (by omega) (by omega) ag;simp only[vf,cV,c9,e];exact ⟨x,_,rfl,by omega,by omega⟩
theorem a12 (n:Nat) (h:n<4611686018427387904):i64.wrap (Int.tdiv (n:Int) 4)=((n/4:Nat):Int):=by
 have aq:Int.tdiv ((n:Nat):Int) 4=((n/4:Nat):Int):=by
  rw[Int.tdiv_eq_ediv_of_nonneg (by omega)];omega
 rw[aq,cU (by omega)]
theorem agy (a b:Nat) (l:List ah) (fg:a+12<b) (ag:b<=l.length) (ao:l.length<4611686018427387904):
  ∃x:Nat,∃h:Int,EY ((a:Int),(b:Int),l,())=some ((x:Int),h,l,())/\a<=x/\x<b:=by
 have gy:i64.wrap ((b:Int)-(a:Int))=((b-a:Nat):Int):=by rw[cU (by omega)];omega
 obtain ⟨n,aQ⟩: ∃n,b-a=n:=⟨_,rfl⟩;rw[aQ]at gy;have q:=a12 n (by omega);have ai: ∀k:Nat,k<=3->i64.wrap ((a:Int)+i64.wrap (((n/4:Nat):Int)*(k:Int)))=((a+n/4*k:Nat):Int):=by
  intro k av;have jm:n/4*k<=n:=by
   have:n/4*k<=n/4*3:=Nat.mul_le_mul_left _ av;omega
  have e:((n/4:Nat):Int)*(k:Int)=((n/4*k:Nat):Int):=by rw[Int.natCast_mul]
  rw[e,cU (x:=((n/4*k:Nat):Int)) (by omega),cU (by omega)];omega
 have f1:i64.wrap ((a:Int)+i64.wrap (((n/4:Nat):Int)*1))=((a+n/4*1:Nat):Int):=ai 1 (by omega);have f2:i64.wrap ((a:Int)+i64.wrap (((n/4:Nat):Int)*2))=((a+n/4*2:Nat):Int):=ai 2 (by omega);have f3:i64.wrap ((a:Int)+i64.wrap (((n/4:Nat):Int)*3))=((a+n/4*3:Nat):Int):=ai 3 (by omega);have sN:((n:Int)>=8):=by omega
 have fin: ∀(i j k:Nat) (s:Int),a<=i->a<=j->a<=k->i<b->j<b->k<b-> ∃x:Nat,∃h:Int,E3 ((i:Int),(j:Int),(k:Int),l,s,())=some ((x:Int),h,l,())/\a<=x/\x<b:=by
  intro i j k s aa ad al aE aZ bu;obtain ⟨x,gg,e,h⟩:=Zg i j k l s (by omega) (by omega) (by omega);simp only[E3,e];cases decide (gg=0)
  ·cases decide (gg=12)
   ·exact ⟨x,_,rfl,by omega,by omega⟩
   ·exact ⟨x,_,rfl,by omega,by omega⟩
  ·exact ⟨x,_,rfl,by omega,by omega⟩
 simp only[EY,gy,q,f1,f2,f3,am sN,az];by_cases Nq:n>=50
 ·have Mr:((n:Int)>=50):=by omega
  obtain ⟨mg,s1,g1,g2,g3⟩:=K2 (a+n/4*1) l 0 (by omega) (by omega) ao;obtain ⟨mW,s2,a1,k2,b8⟩:=K2 (a+n/4*2) l s1 (by omega) (by omega) ao;obtain ⟨rS,hT,cZ,cr,ey⟩:=K2 (a+n/4*3) l s2 (by omega) (by omega) ao;simp only[am Mr,az,g1,a1,cZ];exact fin mg mW rS hT (by omega) (by omega) (by omega) (by omega) (by omega) (by omega)
 ·have Mr: ¬((n:Int)>=50):=by omega
  simp only[bg Mr,aM];exact fin _ _ _ 0 (by omega) (by omega) (by omega) (by omega) (by omega) (by omega)
theorem aku (i j:Nat) (d:Array ah):Sort.reverseLoop i j d=if i<j then Sort.reverseLoop (i+1) (j-1) (Sort.swp d i j) else d:=by
 conv=>lhs;unfold Sort.reverseLoop
theorem ao9 (a b:Nat) (l:List ah) (fg:a<b) (ag:b<=l.length) (ao:l.length<4611686018427387904):
  zv ((a:Int),(b:Int),l,())=some ((Sort.reverseRange l.toArray a b).toList,()):=by
 obtain ⟨r,aa,ad⟩:=jT (b:=zC) (fun q:Nat×Nat×List ah=>((q.1:Int),(q.2.1:Int),q.2.2,())) (fun q=>q.2.1-q.1) (fun q=>q.1<=q.2.2.length/\q.2.1<q.2.2.length/\q.2.2.length<4611686018427387904)
  (fun q r=>r=.inl ((Sort.reverseLoop q.1 q.2.1 q.2.2.toArray).toList,()))
  (fun q aN=>by
   obtain ⟨i,j,l⟩:=q;obtain ⟨ab,ay,ao⟩:=aN;simp only at ab ay ao;have hu:=aku i j l.toArray;rw[jZ]at hu;by_cases bb:i<j
   ·left;have c:((i:Int)<(j:Int)):=by omega
    have cV:i64.wrap ((j:Int)-1)=((j-1:Nat):Int):=by rw[cU (by omega)];omega
    have c9:=fa (j:=i) (by omega);rw[if_pos bb]at hu;simp only[zC,am c,az,dO ay,dO (show i<l.length by omega),bQ,List.length_set,cV,c9];refine ⟨(i+1,j-1,e9 l i j),rfl,⟨by simp only[fA];omega,by simp only[fA];omega,by simp only[fA];exact ao⟩,by simp only;omega,fun r aA=> ?_⟩;rw[aA,hu]
   ·right;have c: ¬((i:Int)<(j:Int)):=by omega
    rw[if_neg bb]at hu;simp only[zC,bg c,aM,hu];exact ⟨_,rfl,rfl⟩) (a,b-1,l) ⟨by simp only;omega,by simp only;omega,ao⟩ (by simp only;omega)
 have w:i64.wrap ((b:Int)-1)=((b-1:Nat):Int):=by rw[cU (by omega)];omega
 have db:MX ((a:Int),((b-1:Nat):Int),l,())=some r:=aa;unfold zv;dsimp only;rw[w,db,ad];rfl
def aaR (k n:Nat):Bool:=match wa ((n:Int),(k:Int),()) with
 |some (v,_)=>decide ((k:Int)<=v)&&decide (v<=(k+8:Nat))&&(decide (n=0)||decide (2^(v-k).toNat<=2*n))
 |none=>false
theorem aqc:((List.range 8).all fun k=>(List.range 256).all (aaR (8*k)))=true:=by kernel_rfl
theorem ahA (n:Nat) (h:n<256) (k:Nat) (av:k<8): ∃v:Nat,wa ((n:Int),((8*k:Nat):Int),())=some (((8*k+v:Nat):Int),())/\(n≠0->2^v<=2*n)/\v<=8:=by
 have aa:=List.all_eq_true.1 (List.all_eq_true.1 aqc k (List.mem_range.2 av)) n (List.mem_range.2 h);unfold aaR at aa;cases e:wa ((n:Int),((8*k:Nat):Int),()) with
 |none=>rw[e]at aa;cases aa
 |some r=>
  obtain ⟨v,u⟩:=r;rw[e]at aa;have aa:(decide (((8*k:Nat):Int)<=v)&&decide (v<=(8*k+8:Nat))&&(decide (n=0)||decide (2^(v-((8*k:Nat):Int)).toNat<=2*n)))=true:=aa;rw[bB,bB,Bool.or_eq_true,dd,dd,dd,dd]at aa;obtain ⟨⟨ad,al⟩,aE⟩:=aa;refine ⟨(v-((8*k:Nat):Int)).toNat,?_,fun aQ=>aE.resolve_left aQ,by omega⟩;have:((8*k+(v-((8*k:Nat):Int)).toNat:Nat):Int)=v:=by omega
  rw[this]
theorem Lo (n k:Nat) (av:k<=64):Int.fdiv (n:Int) (2^(min (Int.toNat (k:Int)) IntKind.u64.bits))=((n/2^k:Nat):Int):=by
 have:min (Int.toNat (k:Int)) IntKind.u64.bits=k:=by
  show min k 64=k;omega
 rw[this,Int.fdiv_eq_ediv_of_nonneg _ (by exact Int.le_of_lt (Int.pow_pos (by omega)))];rw[Int.natCast_ediv,Int.natCast_pow];rfl
theorem aaS (n:Nat) (h:n<4611686018427387904) (bY:n≠0): ∃v:Nat,wW ((n:Int),())=some ((v:Int),())/\2^v<=2*n/\v<=64:=by
 have shift: ∀(m k s v:Nat),2^v<=2^(k+s)*(2*(m/2^s))->2^v<=2^k*(2*m):=by
  intro m k s v aX;refine Nat.le_trans aX ?_;rw[Nat.pow_add,Nat.mul_assoc];have aa:2^s*(m/2^s)<=m:=Nat.mul_div_le m (2^s);have ad:2^s*(2*(m/2^s))=2*(2^s*(m/2^s)):=by rw[Nat.mul_left_comm]
  rw[ad];exact Nat.mul_le_mul_left _ (by omega)
 have dC: ∀(m k:Nat),m≠0->m<256->k<8-> ∃v:Nat,wa ((m:Int),((8*k:Nat):Int),())=some ((v:Int),())/\2^v<=2^(8*k)*(2*m)/\v<=8*k+8:=by
  intro m k bY hm av;obtain ⟨v,e,aa,ad⟩:=ahA m hm k av;refine ⟨8*k+v,e,?_,by omega⟩;rw[Nat.pow_add];exact Nat.mul_le_mul_left _ (aa bY)
 have b9: ∀(m k:Nat),m≠0->m<65536->k<7-> ∃v:Nat,Gd ((m:Int),((8*k:Nat):Int),())=some ((v:Int),())/\2^v<=2^(8*k)*(2*m)/\v<=8*k+16:=by
  intro m k bY hm av;unfold Gd;dsimp only;by_cases aa:m>=256
  ·have c:((m:Int)>=256):=by omega
   have w:i64.wrap (((8*k:Nat):Int)+8)=((8*(k+1):Nat):Int):=by rw[cU (by omega)];omega
   have d:=Lo m 8 (by omega);have d:Int.fdiv (m:Int) (2^(min (Int.toNat (8:Int)) IntKind.u64.bits))=((m/2^8:Nat):Int):=d;obtain ⟨v,e,ad,al⟩:=dC (m/2^8) (k+1) (by omega) (by omega) (by omega);rw[am c,az,d,w,e];exact ⟨v,rfl,shift m (8*k) 8 v ad,by omega⟩
  ·have c: ¬((m:Int)>=256):=by omega
   obtain ⟨v,e,ad,al⟩:=dC m k bY (by omega) (by omega);rw[bg c,aM,e];exact ⟨v,rfl,ad,by omega⟩
 have fx: ∀(m k:Nat),m≠0->m<4294967296->k<5-> ∃v:Nat,v8 ((m:Int),((8*k:Nat):Int),())=some ((v:Int),())/\2^v<=2^(8*k)*(2*m)/\v<=8*k+32:=by
  intro m k bY hm av;unfold v8;dsimp only;by_cases aa:m>=65536
  ·have c:((m:Int)>=65536):=by omega
   have w:i64.wrap (((8*k:Nat):Int)+16)=((8*(k+2):Nat):Int):=by rw[cU (by omega)];omega
   have d:Int.fdiv (m:Int) (2^(min (Int.toNat (16:Int)) IntKind.u64.bits))=((m/2^16:Nat):Int):=Lo m 16 (by omega);obtain ⟨v,e,ad,al⟩:=b9 (m/2^16) (k+2) (by omega) (by omega) (by omega);rw[am c,az,d,w,e];exact ⟨v,rfl,shift m (8*k) 16 v ad,by omega⟩
  ·have c: ¬((m:Int)>=65536):=by omega
   obtain ⟨v,e,ad,al⟩:=b9 m k bY (by omega) (by omega);rw[bg c,aM,e];exact ⟨v,rfl,ad,by omega⟩
 unfold wW Qp;dsimp only;by_cases aa:n>=4294967296
 ·have c:((n:Int)>=4294967296):=by omega
  have d:Int.fdiv (n:Int) (2^(min (Int.toNat (32:Int)) IntKind.u64.bits))=((n/2^32:Nat):Int):=Lo n 32 (by omega);obtain ⟨v,e,ad,al⟩:=fx (n/2^32) 4 (by omega) (by omega) (by omega);have e:v8 (((n/2^32:Nat):Int),(32:Int),())=some ((v:Int),()):=e;rw[am c,az,d,e];refine ⟨v,rfl,?_,by omega⟩;have:=shift n 0 32 v ad;simpa using this
 ·have c: ¬((n:Int)>=4294967296):=by omega
  obtain ⟨v,e,ad,al⟩:=fx n 0 bY (by omega) (by omega);have e:v8 ((n:Int),(0:Int),())=some ((v:Int),()):=e;rw[bg c,aM,e];refine ⟨v,rfl,?_,by omega⟩;simpa using ad
theorem apE (l m:List ah) (a b i j:Nat) (h:Sort.PermIn a b l.toArray m.toArray) (ab:a<=i/\i<b) (ay:a<=j/\j<b) (ag:b<=m.length):Sort.PermIn a b l.toArray (e9 m i j).toArray:=by
 rw[<-jZ];exact Sort.permIn_trans _ _ _ a b h (Sort.swp_permIn _ a b i j ab.1 ab.2 ay.1 ay.2 (by simpa using ag))
theorem aqy (a b:Nat) (l:List ah) (fg:a+12<b) (ag:b<=l.length) (ao:l.length<4611686018427387904):
  ∃m:List ah,EK ((a:Int),(b:Int),l,())=some (m,())/\Sort.PermIn a b l.toArray m.toArray:=by
 have gy:i64.wrap ((b:Int)-(a:Int))=((b-a:Nat):Int):=by rw[cU (by omega)];omega
 obtain ⟨n,aQ⟩: ∃n,b-a=n:=⟨_,rfl⟩;rw[aQ]at gy;have q:=a12 n (by omega);have sN:((n:Int)>=8):=by omega
 obtain ⟨v,ev,aX,OF⟩:=aaS n (by omega) (by omega);have hu:IntKind.u64.wrap (n:Int)=(n:Int):=by
  show (n:Int)%2^64=_;omega
 have aP:2^v<9223372036854775808:=by omega
 have s7:1<=2^v:=Nat.one_le_two_pow;have ng:FU ((n:Int),())=some (((2^v:Nat):Int),()):=by
  have c: ¬((v:Int)<0):=by omega
  have N8:min (Int.toNat (v:Int)) IntKind.u64.bits=v:=by
   show min v 64=v;omega
  simp only[FU,hu,ev,bg c,aM,N8];have e:(1:Int)*2^v=((2^v:Nat):Int):=by rw[Int.one_mul,Int.natCast_pow];rfl
  rw[e];have:IntKind.u64.wrap ((2^v:Nat):Int)=((2^v:Nat):Int):=by
   show ((2^v:Nat):Int)%2^64=_;omega
  rw[this]
 have aq:i64.wrap ((a:Int)+i64.wrap (((n/4:Nat):Int)*2))=((a+n/4*2:Nat):Int):=by
  have e:((n/4:Nat):Int)*2=((n/4*2:Nat):Int):=by omega
  rw[e,cU (x:=((n/4*2:Nat):Int)) (by omega),cU (by omega)];omega
 have fy:i64.wrap (((a+n/4*2:Nat):Int)-1)=((a+n/4*2-1:Nat):Int):=by rw[cU (by omega)];omega
 have jv:i64.wrap (((a+n/4*2:Nat):Int)+1)=((a+n/4*2+1:Nat):Int):=by rw[cU (by omega)];omega
 obtain ⟨r,aa,m,rfl,awx,hN⟩:=jT (b:=zz) (fun q:Nat×List ah×Int=>((a:Int),(n:Int),((2^v:Nat):Int),(q.1:Int),q.2.1,q.2.2,())) (fun q=>b-q.1)
  (fun q=>a<=q.1/\q.1<=a+n/4*2+2/\q.2.1.length=l.length/\Sort.PermIn a b l.toArray q.2.1.toArray)
  (fun q r=> ∃m:List ah,r=.inl (m,())/\m.length=l.length/\Sort.PermIn a b l.toArray m.toArray)
  (fun q aN=>by
   obtain ⟨i,m,awP⟩:=q;obtain ⟨aa,ad,al,aE⟩:=aN;simp only at aa ad al aE;by_cases ab:i<=a+n/4*2+1
   ·left;have c:((i:Int)<=((a+n/4*2+1:Nat):Int)):=by omega
    have Hd:=fa (j:=i) (by omega);have avG:IntKind.u64.wrap (((2^v:Nat):Int)-1)=((2^v-1:Nat):Int):=by
     show (((2^v:Nat):Int)-1)%2^64=_;omega
    have fin: ∀(o:Nat) (Px:Int),o<n-> ∃t:Nat×List ah×Int,EA ((a:Int),(n:Int),((2^v:Nat):Int),(i:Int),(o:Int),m,Px,())=some (.inl ((a:Int),(n:Int),((2^v:Nat):Int),(t.1:Int),t.2.1,t.2.2,()))/\
      (a<=t.1/\t.1<=a+n/4*2+2/\t.2.1.length=l.length/\Sort.PermIn a b l.toArray t.2.1.toArray)/\b-t.1<b-i/\ ∀r:(List ah×Unit)⊕Unit,(∃m:List ah,r=.inl (m,())/\m.length=l.length/\Sort.PermIn a b l.toArray m.toArray)->(∃m:List ah,r=.inl (m,())/\m.length=l.length/\Sort.PermIn a b l.toArray m.toArray):=by
     intro o Px an;have wo:=BN (i:=a) (j:=o) (by omega);simp only[EA,wo,dO (show a+o<m.length by omega),dO (show i<m.length by omega),az,bQ,List.length_set,Hd];refine ⟨(i+1,e9 m i (a+o),Px),rfl,⟨by simp only;omega,by simp only;omega,by simp only[fA];exact al,apE l m a b i (a+o) aE ⟨aa,by omega⟩ ⟨by omega,by omega⟩ (by omega)⟩,by simp only;omega,fun r aA=>aA⟩
    simp only[zz,q,aq,jv,am c,az,Pv,avG];generalize IntKind.u64.wrap ((BitVec.ofInt IntKind.u64.bits _ ^^^ BitVec.ofInt IntKind.u64.bits (IntKind.u64.wrap (_*2^(min (Int.toNat (17:Int)) IntKind.u64.bits)))).toNat:Int)=R;obtain ⟨o,an⟩: ∃o:Nat,(BitVec.ofInt IntKind.u64.bits R &&& BitVec.ofInt IntKind.u64.bits ((2^v-1:Nat):Int)).toNat=o:=⟨_,rfl⟩;have cR:o<=2^v-1:=by
     rw[<-an,BitVec.toNat_and];refine Nat.le_trans Nat.and_le_right ?_;rw[BitVec.toNat_ofInt];show ((((2^v-1:Nat):Int)%((2^64:Nat):Int)).toNat)<=_;omega
    rw[an];have avI:IntKind.u64.wrap (o:Int)=(o:Int):=by
     show (o:Int)%2^64=_;omega
    have avH:i64.wrap (o:Int)=(o:Int):=cU (by omega);rw[avI,avH];by_cases asr:o>=n
    ·have aY:((o:Int)>=(n:Int)):=by omega
     have PU:i64.wrap ((o:Int)-(n:Int))=((o-n:Nat):Int):=by rw[cU (by omega)];omega
     rw[am aY,az,PU];exact fin (o-n) R (by omega)
    ·have aY: ¬((o:Int)>=(n:Int)):=by omega
     rw[bg aY,aM];exact fin o R (by omega)
   ·right;have c: ¬((i:Int)<=((a+n/4*2+1:Nat):Int)):=by omega
    simp only[zz,q,aq,jv,bg c,aM];exact ⟨_,rfl,m,rfl,al,aE⟩) (a+n/4*2-1,l,(n:Int)) ⟨by simp only;omega,by simp only;omega,rfl,Sort.permIn_refl _ a b⟩ (by simp only;omega)
 have db:M6 ((a:Int),(n:Int),((2^v:Nat):Int),((a+n/4*2-1:Nat):Int),l,(n:Int),())=some (.inl (m,())):=aa;refine ⟨m,?_,hN⟩;simp only[EK,gy,am sN,az,hu,ng,q,aq,fy,db]
def qb (a b:Nat) (l m:List ah):Prop:=Sort.PermIn a b l.toArray m.toArray/\Sort.SortedIn bp a b m.toArray
theorem PermIn.len {a b:Nat} {l m:List ah} (h:Sort.PermIn a b l.toArray m.toArray):m.length=l.length:=by simpa using h.1
abbrev r1:Type:=((Int)×(Int)×(Int)×(List (ah))×Unit)->Option ((List (ah))×Unit)
abbrev HF:Type:=(Int)×(Int)×(Int)×(Bool)×(Bool)×(List (ah))×Unit
def qs (r:r1) (N:Nat):Prop:= ∀(a b:Nat) (lim:Int) (l:List ah),a<=b->b<=l.length->l.length<4611686018427387904->b-a<N->Sort.Below bp a b l.toArray->
 ∃m,r ((a:Int),(b:Int),lim,l,())=some (m,())/\qb a b l m
structure Next (a b:Nat) (l:List ah) (s:HF):Prop where
 ex: ∃(bd bK:Nat) (lim:Int) (gT wp:Bool) (m:List ah),s=((bd:Int),(bK:Int),lim,gT,wp,m,())/\bd<=bK/\bK<=m.length/\m.length=l.length/\Sort.Below bp bd bK m.toArray/\bK-bd<b-a/\ ∀x,qb bd bK m x->qb a b l x
theorem Next.pre {a b:Nat} {l m:List ah} {s:HF} (h:Next a b m s) (aP:Sort.PermIn a b l.toArray m.toArray):Next a b l s:=by
 obtain ⟨bd,bK,lim,gT,wp,x,aa,ad,al,aE,aZ,bu,dq⟩:=h.ex;exact ⟨bd,bK,lim,gT,wp,x,aa,ad,al,aE.trans (PermIn.len aP),aZ,bu,fun y bf=>⟨Sort.permIn_trans _ _ _ a b aP (dq y bf).1,(dq y bf).2⟩⟩
theorem agR (r:r1) (a b N p:Nat) (lim len:Int) (l:List ah) (aA:qs r N) (kE:b-a<=N) (s7:a<=p) (lu:p<b) (ag:b<=l.length) (ao:l.length<4611686018427387904) (cM:Sort.Below bp a b l.toArray):
  ∃s,oS r ((a:Int),(b:Int),lim,len,(p:Int),l,())=some (.inl s)/\Next a b l s:=by
 have e:=ahh a b p l (by omega) lu ag ao;obtain ⟨hR,ap,d4,aw⟩: ∃hR ap d4,Sort.partition bp l.toArray a b p=(hR,ap,d4):=⟨_,_,_,rfl⟩;obtain ⟨m,rfl⟩: ∃m:List ah,d4=m.toArray:=⟨d4.toList,by simp⟩;obtain ⟨aa,ad,al,aE,aZ,bu,dq⟩:=Sort.round_part x0 (Sort.partition_holds bp) s7 lu (by simpa using ag) cM aw;have iU:m.length=l.length:=by simpa using al
 rw[aw]at e;have e:dl ((a:Int),(b:Int),(p:Int),l,())=some ((hR:Int),ap,m,()):=e;have cV:i64.wrap ((hR:Int)-(a:Int))=((hR-a:Nat):Int):=by rw[cU (by omega)];omega
 have c9:i64.wrap ((b:Int)-(hR:Int))=((b-hR:Nat):Int):=by rw[cU (by omega)];omega
 have fy:=fa (j:=hR) (by omega);simp only[oS,e,cV,c9,fy];by_cases aB:hR-a<b-hR
 ·have c:(((hR-a:Nat):Int)<((b-hR:Nat):Int)):=by omega
  obtain ⟨L,f1,f2,f3⟩:=aA a hR lim m aa (by omega) (by omega) (by omega) aE;obtain ⟨a1,k2⟩:=bu L.toArray f2 f3;rw[am c,az,f1];have Nv:L.length=l.length:=(PermIn.len f2).trans iU;exact ⟨_,rfl,⟨hR+1,b,_,_,_,L,rfl,by omega,by omega,Nv,a1,by omega,fun x aw=>k2 x.toArray aw.1 aw.2⟩⟩
 ·have c: ¬(((hR-a:Nat):Int)<((b-hR:Nat):Int)):=by omega
  obtain ⟨L,f1,f2,f3⟩:=aA (hR+1) b lim m (by omega) (by omega) (by omega) (by omega) aZ;obtain ⟨a1,k2⟩:=dq L.toArray f2 f3;rw[bg c,aM,f1];have Nv:L.length=l.length:=(PermIn.len f2).trans iU;exact ⟨_,rfl,⟨a,hR,_,_,_,L,rfl,by omega,by omega,Nv,a1,by omega,fun x aw=>k2 x.toArray aw.1 aw.2⟩⟩
theorem agQ (r:r1) (a b N p:Nat) (lim len:Int) (gT wp:Bool) (l:List ah) (aA:qs r N) (kE:b-a<=N) (s7:a<=p) (lu:p<b) (ag:b<=l.length) (ao:l.length<4611686018427387904) (cM:Sort.Below bp a b l.toArray):
  ∃s,(kt r ((a:Int),(b:Int),lim,gT,wp,len,(p:Int),l,())=some (.inl s)\/kt r ((a:Int),(b:Int),lim,gT,wp,len,(p:Int),l,())=some (.inr s))/\Next a b l s:=by
 obtain ⟨s,g1,g2⟩:=agR r a b N p lim len l aA kE s7 lu ag ao cM;by_cases aR:a>0
 ·have c:((a:Int)>0):=by omega
  have cV:i64.wrap ((a:Int)-1)=((a-1:Nat):Int):=by rw[cU (by omega)];omega
  simp only[kt,am c,az,cV,dO (show a-1<l.length by omega),dO (show p<l.length by omega),bQ,kW,kQ];cases bb:bp (List.getD l (a-1) e8) (List.getD l p e8)
  ·have e:=apB a b p l (by omega) lu ag ao;obtain ⟨hR,d4,aw⟩: ∃hR d4,Sort.partitionEqual bp l.toArray a b p=(hR,d4):=⟨_,_,rfl⟩;obtain ⟨m,rfl⟩: ∃m:List ah,d4=m.toArray:=⟨d4.toList,by simp⟩;have gQ:bp (l.toArray)[a-1]! (l.toArray)[p]! =false:=by rw[fE,fE];exact bb
   obtain ⟨aa,ad,al,aE,aZ⟩:=Sort.round_eq x0 (Sort.partitionEqual_holds bp) aR s7 lu (by simpa using ag) cM gQ aw;have iU:m.length=l.length:=by simpa using al
   rw[aw]at e;have e:zo ((a:Int),(b:Int),(p:Int),l,())=some ((hR:Int),m,()):=e;simp only[nQ,dm,az,e];exact ⟨_,.inr rfl,⟨hR,b,_,_,_,m,rfl,by omega,by omega,iU,aE,by omega,fun x aw=>aZ x.toArray aw.1 aw.2⟩⟩
  ·simp only[nQ,du,aM,g1];exact ⟨_,.inl rfl,g2⟩
 ·have c: ¬((a:Int)>0):=by omega
  simp only[kt,bg c,aM,nQ,g1];exact ⟨_,.inl rfl,g2⟩
def CM (a b:Nat) (l:List ah) (x:Option (HF⊕(((List (ah))×Unit)⊕(Unit)))):Prop:=
 (∃s,x=some (.inl s)/\Next a b l s)\/(∃m,x=some (.inr (.inl (m,())))/\qb a b l m)
theorem R5 (r:r1) (a b N p:Nat) (lim len hint:Int) (gT wp:Bool) (l:List ah) (aA:qs r N) (kE:b-a<=N) (s7:a<=p) (lu:p<b) (ag:b<=l.length) (ao:l.length<4611686018427387904) (cM:Sort.Below bp a b l.toArray):
  CM a b l (EN r ((a:Int),(b:Int),lim,gT,wp,len,(p:Int),hint,l,())):=by
 have flag: ∀f:Bool,(∃m,lN r ((a:Int),(b:Int),lim,gT,wp,len,(p:Int),f,l,())=some (.inl ((a:Int),(b:Int),lim,gT,wp,len,(p:Int),m,()))/\Sort.PermIn a b l.toArray m.toArray)\/
   (∃m,lN r ((a:Int),(b:Int),lim,gT,wp,len,(p:Int),f,l,())=some (.inr (m,()))/\qb a b l m):=by
  intro f;cases f with
  |false=>
   left;exact ⟨l,by simp only[lN,aM],Sort.permIn_refl _ a b⟩
  |true=>
   have e:=ao6 a b l (by omega) ag ao;obtain ⟨aa,ad⟩:=Sort.partialInsertionSort_holds (lt:=bp) x0 l.toArray a b (by omega) (by simpa using ag) cM;obtain ⟨d,f2,aw⟩: ∃d f2,Sort.partialInsertionSort bp l.toArray a b=(d,f2):=⟨_,_,rfl⟩;obtain ⟨m,rfl⟩: ∃m:List ah,d=m.toArray:=⟨d.toList,by simp⟩;rw[aw]at e aa ad;have e:zb ((a:Int),(b:Int),l,())=some (f2,m,()):=e;simp only[lN,az,e];cases f2 with
   |true=>exact .inr ⟨m,rfl,aa,ad rfl⟩
   |false=>exact .inl ⟨m,rfl,aa⟩
 have go: ∀m,Sort.PermIn a b l.toArray m.toArray-> ∃s,(kt r ((a:Int),(b:Int),lim,gT,wp,len,(p:Int),m,())=some (.inl s)\/kt r ((a:Int),(b:Int),lim,gT,wp,len,(p:Int),m,())=some (.inr s))/\Next a b l s:=by
  intro m hm;have iU:=PermIn.len hm;obtain ⟨s,aa,ad⟩:=agQ r a b N p lim len gT wp m aA kE s7 lu (by omega) (by omega) (cM.perm (by simpa using ag) hm);exact ⟨s,aa,ad.pre hm⟩
 unfold EN;dsimp only;have fin: ∀f:Bool,CM a b l (match lN r ((a:Int),(b:Int),lim,gT,wp,len,(p:Int),f,l,()) with
   |none=>none
   |some (.inl aH)=>
    match kt r (aH.1,aH.2.1,aH.2.2.1,aH.2.2.2.1,aH.2.2.2.2.1,aH.2.2.2.2.2.1,aH.2.2.2.2.2.2.1,aH.2.2.2.2.2.2.2.1,()) with
    |none=>none
    |some (.inl z2)=>
     some (.inl (z2.1,z2.2.1,z2.2.2.1,z2.2.2.2.1,z2.2.2.2.2.1,z2.2.2.2.2.2.1,()))
    |some (.inr z2)=>
     some (.inl (z2.1,z2.2.1,z2.2.2.1,z2.2.2.2.1,z2.2.2.2.2.1,z2.2.2.2.2.2.1,()))
   |some (.inr aH)=>
    some (.inr (.inl (aH.1,())))):=by
  intro f;rcases flag f with ⟨m,e,hm⟩|⟨m,e,hm⟩
  ·rw[e];obtain ⟨s,aa |aa,ad⟩:=go m hm
   ·dsimp only;rw[aa];exact .inl ⟨s,rfl,ad⟩
   ·dsimp only;rw[aa];exact .inl ⟨s,rfl,ad⟩
  ·rw[e];exact .inr ⟨m,rfl,hm⟩
 cases gT with
 |false=>exact fin false
 |true=>
  cases wp with
  |false=>exact fin false
  |true=>exact fin _
theorem Sc (r:r1) (a b N:Nat) (lim len:Int) (gT wp:Bool) (l:List ah) (aA:qs r N) (kE:b-a<=N) (fg:a+12<b) (ag:b<=l.length) (ao:l.length<4611686018427387904) (cM:Sort.Below bp a b l.toArray):
  CM a b l (EM r ((a:Int),(b:Int),lim,gT,wp,len,l,())):=by
 obtain ⟨p,h,e,aa,ad⟩:=agy a b l fg ag ao;simp only[EM,e];cases aB:decide (h=2)
 ·simp only[aM];exact R5 r a b N p lim len h gT wp l aA kE aa ad ag ao cM
 ·have aq:=ao9 a b l (by omega) ag ao;have aP:=Sort.reverseRange_holds l.toArray a b (by omega) (by simpa using ag);obtain ⟨m,hm⟩: ∃m:List ah,Sort.reverseRange l.toArray a b=m.toArray:=⟨(Sort.reverseRange l.toArray a b).toList,by simp⟩;rw[hm]at aq aP;have iU:=PermIn.len aP;have aq:zv ((a:Int),(b:Int),l,())=some (m,()):=aq;have cV:i64.wrap ((b:Int)-1)=((b-1:Nat):Int):=by rw[cU (by omega)];omega
  have c9:i64.wrap ((p:Int)-(a:Int))=((p-a:Nat):Int):=by rw[cU (by omega)];omega
  have fy:i64.wrap (((b-1:Nat):Int)-((p-a:Nat):Int))=((b-1-(p-a):Nat):Int):=by rw[cU (by omega)];omega
  simp only[az,aq,cV,c9,fy];have:=R5 r a b N (b-1-(p-a)) lim len 1 gT wp m aA kE (by omega) (by omega) (by omega) (by omega) (cM.perm (by simpa using ag) aP);rcases this with ⟨s,a1,k2⟩|⟨x,a1,k2⟩
  ·exact .inl ⟨s,a1,k2.pre aP⟩
  ·exact .inr ⟨x,a1,Sort.permIn_trans _ _ _ a b aP k2.1,k2.2⟩
theorem ahR (r:r1) (a b N:Nat) (lim:Int) (gT wp:Bool) (l:List ah) (aA:qs r N) (kE:b-a<=N) (fg:a<=b) (ag:b<=l.length) (ao:l.length<4611686018427387904) (cM:Sort.Below bp a b l.toArray):
  CM a b l (vn r ((a:Int),(b:Int),lim,gT,wp,l,())):=by
 have gy:i64.wrap ((b:Int)-(a:Int))=((b-a:Nat):Int):=by rw[cU (by omega)];omega
 unfold vn;dsimp only;rw[gy];by_cases awd:b-a<=12
 ·have c:(((b-a:Nat):Int)<=12):=by omega
  rw[am c,az,anI a b l ag ao fg];have:=Sort.insertionSort_holds (lt:=bp) x0 l.toArray a b fg (by simpa using ag);refine .inr ⟨(Sort.insertionSort bp l.toArray a b).toList,rfl,?_⟩;unfold qb;rw[Array.toArray_toList];exact this
 ·have c: ¬(((b-a:Nat):Int)<=12):=by omega
  rw[bg c,aM];cases awu:decide (lim=0)
  ·rw[aM];cases gT with
   |true=>
    simp only[du,aM];exact Sc r a b N lim _ true wp l aA kE (by omega) ag ao cM
   |false=>
    obtain ⟨m,e,aP⟩:=aqy a b l (by omega) ag ao;have iU:=PermIn.len aP;simp only[dm,az,e];have:=Sc r a b N (i64.wrap (lim-1)) ((b-a:Nat):Int) false wp m aA kE (by omega) (by omega) (by omega) (cM.perm (by simpa using ag) aP);rcases this with ⟨s,a1,k2⟩|⟨x,a1,k2⟩
    ·exact .inl ⟨s,a1,k2.pre aP⟩
    ·exact .inr ⟨x,a1,Sort.permIn_trans _ _ _ a b aP k2.1,k2.2⟩
  ·rw[az,ag6 a b l (by omega) ag ao];have:=Sort.heapSort_holds (lt:=bp) x0 l.toArray a b fg (by simpa using ag);refine .inr ⟨(Sort.heapSort bp l.toArray a b).toList,rfl,?_⟩;unfold qb;rw[Array.toArray_toList];exact this
theorem ahn (r:r1) (N:Nat) (aA:qs r N) (kE:N<4611686018427387904):qs (zu r) (N+1):=by
 intro a b lim l fg ag ao aQ cM;obtain ⟨x,aa,m,rfl,ad⟩:=jT (b:=vn r) (fun q:Nat×Nat×Int×Bool×Bool×List ah=>((q.1:Int),(q.2.1:Int),q.2.2.1,q.2.2.2.1,q.2.2.2.2.1,q.2.2.2.2.2,())) (fun q=>q.2.1-q.1)
  (fun q=>q.1<=q.2.1/\q.2.1<=q.2.2.2.2.2.length/\q.2.2.2.2.2.length<4611686018427387904/\q.2.1-q.1<=N/\Sort.Below bp q.1 q.2.1 q.2.2.2.2.2.toArray)
  (fun q x=> ∃m,x=.inl (m,())/\qb q.1 q.2.1 q.2.2.2.2.2 m)
  (fun q aN=>by
   obtain ⟨a,b,lim,gT,wp,l⟩:=q;obtain ⟨aa,ad,al,aE,aZ⟩:=aN;simp only at aa ad al aE aZ;rcases ahR r a b N lim gT wp l aA aE aa ad al aZ with ⟨s,a1,k2⟩|⟨x,a1,k2⟩
   ·left;obtain ⟨bd,bK,ati,avE,avJ,m,rfl,cZ,cr,ey,ki,oj,aea⟩:=k2.ex;exact ⟨(bd,bK,ati,avE,avJ,m),a1,⟨cZ,cr,by simp only;omega,by simp only;omega,ki⟩,oj,fun x ⟨y,bf,ar⟩=>⟨y,bf,aea y ar⟩⟩
   ·right;exact ⟨_,a1,x,rfl,k2⟩) (a,b,lim,true,true,l) ⟨fg,ag,ao,by simp only;omega,cM⟩ (by simp only;omega)
 have db:E6 r ((a:Int),(b:Int),lim,true,true,l,())=some (.inl (m,())):=aa;exact ⟨m,by simp only[zu,db],ad⟩
theorem agn: ∀N:Nat,N<4611686018427387904-> ∀n,N<=n->qs (EV n) N:=by
 intro N
 induction N with
 |zero=>
  intro _ n _ a b lim l _ _ _ h _;omega
 |succ N aO=>
  intro kE n aQ;obtain ⟨n,rfl⟩: ∃k,n=k+1:=⟨n-1,by omega⟩;exact ahn _ N (aO (by omega) n (by omega)) (by omega)
def RD (l:List ah):Prop:=l.Pairwise fun a b=>Op.bytesLess b.1 a.1=false
theorem aql (l:List ah) (ao:l.length<1000000000000): ∃m,E5 (l,())=some (m,())/\m.Perm l/\RD m:=by
 have hu:IntKind.u64.wrap (l.length:Int)=(l.length:Int):=by
  show (l.length:Int)%2^64=_;omega
 obtain ⟨v,aX⟩: ∃v,wW ((l.length:Int),())=some (v,()):=by
  by_cases bY:l.length=0
  ·rw[bY];exact ⟨0,by rfl⟩
  ·obtain ⟨v,e,-⟩:=aaS l.length (by omega) bY;exact ⟨_,e⟩
 obtain ⟨m,e,aP,ar⟩:=agn (l.length+1) (by omega) jB (by rw[jV];omega) 0 l.length v l (Nat.zero_le _) (Nat.le_refl _) (by omega) (by omega) (.inl rfl);have e:OZ ((0:Int),(l.length:Int),v,l,())=some (m,()):=e;have iU:=PermIn.len aP;refine ⟨m,by simp only[E5,hu,aX,e],?_,?_⟩
 ·have:=aP.2.2;have ai:(m.toArray.extract 0 l.length).toList=m:=by rw[<-iU];simp
  have aq:(l.toArray.extract 0 l.length).toList=l:=by simp
  rw[ai,aq]at this;exact this
 ·refine List.pairwise_iff_getElem.2 fun i j ab ay nu=> ?_
  have:=ar i j (Nat.zero_le _) nu (by omega);rw[fE,fE,cq ab,cq ay]at this;exact this
def bG (x:ah):Bool:= !h3 x
theorem KU (x:ah):j8 (x,())=some (!bG x,()):=by
 rw[BI];unfold bG;simp
def dj (L:List ah) (x:ak):Bool:=L.any fun s=>bX s x.1
theorem aos (W:List ah) (p:ah) (ao:W.length<=100000000000000000):zg (W,p,())=some (W.any (fun w=>iI w p),W,p,()):=by
 obtain ⟨z,aa,ad⟩:=dY (b:=ce) (fun i (_:Unit)=>((W.length:Int),(i:Int),W,p,())) W.length (fun i _=>(W.take i).any (fun w=>iI w p)=false) (fun z=>(z=.inr (W,p,())/\W.any (fun w=>iI w p)=false)\/(∃i:Nat,z=.inl ((i:Int),W,p,())/\W.any (fun w=>iI w p)=true)) (by omega)
  (fun i ab _ aN=>by
   have ai:=gA (i:=i) (l:=W) (by omega);have aq:=ff i;have bc:=fL i (by omega);simp only[ce,ai,aq,az,b7,bQ,cq ab,Pw,C0,BI,KI,Bool.not_not,bc];cases h:iI W[i] p
   ·refine .inl ⟨(),?_,rfl⟩;rw[eV ab,List.any_append,aN];simp[h]
   ·exact .inr ⟨_,.inr ⟨i,rfl,List.any_eq_true.2 ⟨_,List.getElem_mem ab,h⟩⟩,rfl⟩)
  (fun _ aN=>by
   have ai:=hk W;rw[List.take_length]at aN;exact ⟨_,.inl ⟨rfl,aN⟩,by simp only[ce,ai,aM]⟩) () rfl
 have db:MJ ((W.length:Int),0,W,p,())=some z:=aa;rcases ad with ⟨rfl,al⟩|⟨i,rfl,al⟩
 ·simp only[zg,E2,db,al];rfl
 ·have e:(decide ((i:Int)>=(0:Int)))=true:=am (by omega);simp only[zg,E2,db,al,e]
theorem aor (W:List ah) (p:ak) (ao:W.length<=100000000000000000):zf (W,p,())=some (W.any (fun w=>bX w p.1),p,()):=by
 obtain ⟨z,aa,ad⟩:=dY (b:=zy) (fun i (_:Unit)=>(W,(W.length:Int),(i:Int),p,())) W.length (fun i _=>(W.take i).any (fun w=>bX w p.1)=false) (fun z=>(z=.inr (p,())/\W.any (fun w=>bX w p.1)=false)\/(∃i:Nat,z=.inl ((i:Int),p,())/\W.any (fun w=>bX w p.1)=true)) (by omega)
  (fun i ab _ aN=>by
   have ai:=gA (i:=i) (l:=W) (by omega);have aq:=ff i;have bc:=fL i (by omega);simp only[zy,ai,aq,az,b7,bQ,cq ab,Qh,DJ,bc];cases h:bX W[i] p.1
   ·refine .inl ⟨(),?_,rfl⟩;rw[eV ab,List.any_append,aN];simp[h]
   ·exact .inr ⟨_,.inr ⟨i,rfl,List.any_eq_true.2 ⟨_,List.getElem_mem ab,h⟩⟩,rfl⟩)
  (fun _ aN=>by
   have ai:=hk W;rw[List.take_length]at aN;exact ⟨_,.inl ⟨rfl,aN⟩,by simp only[zy,ai,aM]⟩) () rfl
 have db:MI (W,(W.length:Int),0,p,())=some z:=aa;rcases ad with ⟨rfl,al⟩|⟨i,rfl,al⟩
 ·simp only[zf,E1,db,al];rfl
 ·have e:(decide ((i:Int)>=(0:Int)))=true:=am (by omega);simp only[zf,E1,db,al,e]
theorem Kx (x:ak) (L:List ah) (lS:L.length<=100000000000000000):Bn (x,L,())=some (!dj L x,L,()):=by
 simp only[Bn,aor L x lS];rfl
theorem ag8 (l:List ah) (ao:l.length<=1000000000000):
  (ve (l,())=some ((-1:Int),l,())/\l.filter bG=l)\/ ∃i:Nat,i<l.length/\ve (l,())=some ((i:Int),l,())/\(l.take (i+1)).filter bG=l.take i:=by
 obtain ⟨z,aa,ad⟩:=dY (b:=zh) (fun i (_:Unit)=>((l.length:Int),(i:Int),l,())) l.length (fun i _=>(l.take i).filter bG=l.take i) (fun z=>(z=.inr (l,())/\l.filter bG=l)\/(∃i:Nat,i<l.length/\z=.inl ((i:Int),l,())/\(l.take (i+1)).filter bG=l.take i)) (by omega)
  (fun i ab _ aN=>by
   have ai:=gA (i:=i) (l:=l) (by omega);have aq:=ff i;have bc:=fL i (by omega);simp only[zh,ai,aq,az,b7,bQ,cq ab,KU,Bool.not_not,bc];cases aU:bG l[i]
   ·refine .inr ⟨_,.inr ⟨i,ab,rfl,?_⟩,rfl⟩;rw[eV ab,List.filter_append,aN];simp[aU]
   ·refine .inl ⟨(),?_,rfl⟩;rw[eV ab,List.filter_append,aN];simp[aU])
  (fun _ aN=>by
   have ai:=hk l;rw[List.take_length]at aN;exact ⟨_,.inl ⟨rfl,aN⟩,by simp only[zh,ai,aM]⟩) () rfl
 have db:MH ((l.length:Int),0,l,())=some z:=aa;rcases ad with ⟨rfl,al⟩|⟨i,ab,rfl,al⟩
 ·exact .inl ⟨by simp only[ve,db],al⟩
 ·exact .inr ⟨i,ab,by simp only[ve,db],al⟩
theorem aqC (l:List ah) (ao:l.length<=1000000000000):zt (l,())=some (l.filter bG,()):=by
 rcases ag8 l ao with ⟨aa,ad⟩|⟨i0,NX,aa,ad⟩
 ·have e:(decide ((-1:Int)=(-1:Int)))=true:=rfl;simp only[zt,aa,cL,az,ad]
 ·have e:(decide ((i0:Int)=(-1:Int)))=false:=bg (by omega);have gy:=fL i0 (by omega);have hlen: ∀j,((l.take j).filter bG).length<=j:=fun j=>Nat.le_trans (List.length_filter_le _ _) (by rw[List.length_take];omega)
  obtain ⟨z,g1,g2⟩:=dY (b:=vd) (fun k (s:List ah)=>(((((l.take (i0+1+k)).filter bG).length:Nat):Int),((i0+1+k:Nat):Int),s,())) (l.length-(i0+1))
   (fun k s=>s.length=l.length/\s.take ((l.take (i0+1+k)).filter bG).length=(l.take (i0+1+k)).filter bG/\s.drop (i0+1+k)=l.drop (i0+1+k)/\((l.take (i0+1+k)).filter bG).length<i0+1+k)
   (fun z=> ∃s:List ah,z=.inl ((((l.filter bG).length:Nat):Int),s,())/\s.length=l.length/\s.take (l.filter bG).length=l.filter bG) (by omega)
   (fun k av s ar=>by
    left;obtain ⟨s1,s2,hT,nG⟩:=ar;obtain ⟨j,ay⟩: ∃j,i0+1+k=j:=⟨_,rfl⟩;rw[show i0+1+(k+1)=j+1 by omega];rw[ay]at s2 hT nG ⊢;have n8:j<l.length:=by omega
    have pj:j<s.length:=by omega
    have Ap:s[j]=l[j]:=by
     have eo:=List.drop_eq_getElem_cons pj;have a2:=List.drop_eq_getElem_cons n8;rw[hT,a2]at eo;exact (List.cons.inj eo).1.symm
    have zX:s.drop (j+1)=l.drop (j+1):=by
     have eo:=List.drop_eq_getElem_cons pj;have a2:=List.drop_eq_getElem_cons n8;rw[hT,a2]at eo;exact (List.cons.inj eo).2.symm
    have ai:=gA (i:=j) (l:=s) (by omega);have aq:=ff j;have bc:=fL j (by omega);obtain ⟨c,aB⟩: ∃c,((l.take j).filter bG).length=c:=⟨_,rfl⟩;have arD:c<=j:=by rw[<-aB];exact hlen j
    have pw:(l.take (j+1)).filter bG=(l.take j).filter bG++[l[j]].filter bG:=by rw[eV n8,List.filter_append]
    cases aU:bG l[j] with
    |false=>
     have l1:(l.take (j+1)).filter bG=(l.take j).filter bG:=by rw[pw];simp[aU]
     refine ⟨s,⟨s1,by rw[l1];exact s2,zX,by rw[l1];omega⟩,?_⟩;rw[l1];simp only[vd,ai,aq,az,b7,bQ,cq pj,Ap,KU,aU,dm,du,aM,bc]
    |true=>
     have l1:(l.take (j+1)).filter bG=(l.take j).filter bG++[l[j]]:=by rw[pw];simp[aU]
     have gP:((l.take (j+1)).filter bG).length=c+1:=by rw[l1,List.length_append,aB];rfl
     rw[aB]at s2 nG;have bz:=ff c;have dh:(decide ((c:Int)<((List.length s):Int)))=true:=am (by omega);have c7:=fL c (by omega);refine ⟨s.set c l[j],⟨by rw[List.length_set];exact s1,?_,?_,?_⟩,?_⟩
     ·rw[gP,l1];have lU:c<(s.set c l[j]).length:=by rw[List.length_set];omega
      rw[eV lU,List.take_set_of_le (Nat.le_refl _),s2];simp
     ·rw[List.drop_set_of_lt (by omega)];exact zX
     ·rw[gP];omega
     ·rw[gP,aB];simp only[vd,ai,aq,bz,dh,az,b7,bQ,cq pj,Ap,KU,aU,du,dm,bc,c7])
   (fun s ar=>by
    obtain ⟨s1,s2,hT,nG⟩:=ar;rw[show i0+1+(l.length-(i0+1))=l.length by omega]at s2 hT nG ⊢;rw[List.take_length]at s2 nG ⊢;have ai:(decide (((l.length:Nat):Int)<((List.length s):Int)))=false:=bg (by omega);exact ⟨_,⟨s,rfl,s1,s2⟩,by simp only[vd,ai,aM]⟩) l (by
    refine ⟨rfl,?_,rfl,?_⟩
    ·rw[Nat.add_zero,ad,List.length_take,Nat.min_eq_left (by omega)]
    ·rw[Nat.add_zero,ad,List.length_take];omega)
  obtain ⟨s,rfl,s1,s2⟩:=g2;have fH:((((l.take (i0+1+0)).filter bG).length:Nat):Int)=(i0:Int):=by rw[Nat.add_zero,ad,List.length_take,Nat.min_eq_left (by omega)]
  have kD:MW ((i0:Int),((i0+1:Nat):Int),l,())=some (.inl ((((l.filter bG).length:Nat):Int),s,())):=by
   rw[<-fH];exact g1
  have ln:(l.filter bG).length<=l.length:=List.length_filter_le _ _;obtain ⟨c,aB⟩: ∃c,(l.filter bG).length=c:=⟨_,rfl⟩;rw[aB]at kD s2 ln;have bz:=ff c;have dh:(decide ((c:Int)<=((List.length s):Int)))=true:=am (by omega);have c7:(decide (((List.length s):Int)<=((List.length s):Int)))=true:=am (Int.le_refl _);have iP: ∀r:List ah,(decide ((c:Int)<=((List.length (List.take c s++r)):Int)))=true:=fun r=>am (by rw[List.length_append,List.length_take];omega)
  have ld: ∀r:List ah,List.take c (List.take c s++r)=l.filter bG:=fun r=>by
   rw[List.take_append_of_le_length (by rw[List.length_take];omega),List.take_take,Nat.min_self,s2]
  simp only[zt,aa,e,aM,gy,kD,bz,dh,cL,b7,Bool.true_and,az,bQ,List.append_assoc,iP,ld,c7]
theorem ag7 (l:List ak) (p:List ah) (ao:l.length<=1000000000000) (aP:p.length<=100000000000000000):
  (ci (l,p,())=some ((-1:Int),l,p,())/\l.filter (dj p)=l)\/ ∃i:Nat,i<l.length/\ci (l,p,())=some ((i:Int),l,p,())/\(l.take (i+1)).filter (dj p)=l.take i:=by
 obtain ⟨z,aa,ad⟩:=dY (b:=zn) (fun i (_:Unit)=>((l.length:Int),(i:Int),l,p,())) l.length (fun i _=>(l.take i).filter (dj p)=l.take i) (fun z=>(z=.inr (l,p,())/\l.filter (dj p)=l)\/(∃i:Nat,i<l.length/\z=.inl ((i:Int),l,p,())/\(l.take (i+1)).filter (dj p)=l.take i)) (by omega)
  (fun i ab _ aN=>by
   have ai:=gA (i:=i) (l:=l) (by omega);have aq:=ff i;have bc:=fL i (by omega);simp only[zn,ai,aq,az,b7,bQ,cq ab,Kx _ _ aP,bc];cases aU:dj p l[i]
   ·refine .inr ⟨_,.inr ⟨i,ab,rfl,?_⟩,rfl⟩;rw[eV ab,List.filter_append,aN];simp[aU]
   ·refine .inl ⟨(),?_,rfl⟩;rw[eV ab,List.filter_append,aN];simp[aU])
  (fun _ aN=>by
   have ai:=hk l;rw[List.take_length]at aN;exact ⟨_,.inl ⟨rfl,aN⟩,by simp only[zn,ai,aM]⟩) () rfl
 have db:M4 ((l.length:Int),0,l,p,())=some z:=aa;rcases ad with ⟨rfl,al⟩|⟨i,ab,rfl,al⟩
 ·exact .inl ⟨by simp only[ci,db],al⟩
 ·exact .inr ⟨i,ab,by simp only[ci,db],al⟩
theorem aqB (l:List ak) (p:List ah) (ao:l.length<=1000000000000) (aP:p.length<=100000000000000000):zr (l,p,())=some (p,l.filter (dj p),()):=by
 rcases ag7 l p ao aP with ⟨aa,ad⟩|⟨i0,NX,aa,ad⟩
 ·have e:(decide ((-1:Int)=(-1:Int)))=true:=rfl;simp only[zr,aa,cL,az,ad]
 ·have e:(decide ((i0:Int)=(-1:Int)))=false:=bg (by omega);have gy:=fL i0 (by omega);have hlen: ∀j,((l.take j).filter (dj p)).length<=j:=fun j=>Nat.le_trans (List.length_filter_le _ _) (by rw[List.length_take];omega)
  obtain ⟨z,g1,g2⟩:=dY (b:=vc) (fun k (s:List ak)=>(((((l.take (i0+1+k)).filter (dj p)).length:Nat):Int),((i0+1+k:Nat):Int),s,p,())) (l.length-(i0+1))
   (fun k s=>s.length=l.length/\s.take ((l.take (i0+1+k)).filter (dj p)).length=(l.take (i0+1+k)).filter (dj p)/\s.drop (i0+1+k)=l.drop (i0+1+k)/\((l.take (i0+1+k)).filter (dj p)).length<i0+1+k)
   (fun z=> ∃s:List ak,z=.inl ((((l.filter (dj p)).length:Nat):Int),s,p,())/\s.length=l.length/\s.take (l.filter (dj p)).length=l.filter (dj p)) (by omega)
   (fun k av s ar=>by
    left;obtain ⟨s1,s2,hT,nG⟩:=ar;obtain ⟨j,ay⟩: ∃j,i0+1+k=j:=⟨_,rfl⟩;rw[show i0+1+(k+1)=j+1 by omega];rw[ay]at s2 hT nG ⊢;have n8:j<l.length:=by omega
    have pj:j<s.length:=by omega
    have Ap:s[j]=l[j]:=by
     have eo:=List.drop_eq_getElem_cons pj;have a2:=List.drop_eq_getElem_cons n8;rw[hT,a2]at eo;exact (List.cons.inj eo).1.symm
    have zX:s.drop (j+1)=l.drop (j+1):=by
     have eo:=List.drop_eq_getElem_cons pj;have a2:=List.drop_eq_getElem_cons n8;rw[hT,a2]at eo;exact (List.cons.inj eo).2.symm
    have ai:=gA (i:=j) (l:=s) (by omega);have aq:=ff j;have bc:=fL j (by omega);obtain ⟨c,aB⟩: ∃c,((l.take j).filter (dj p)).length=c:=⟨_,rfl⟩;have arD:c<=j:=by rw[<-aB];exact hlen j
    have pw:(l.take (j+1)).filter (dj p)=(l.take j).filter (dj p)++[l[j]].filter (dj p):=by rw[eV n8,List.filter_append]
    cases aU:dj p l[j] with
    |false=>
     have l1:(l.take (j+1)).filter (dj p)=(l.take j).filter (dj p):=by rw[pw];simp[aU]
     refine ⟨s,⟨s1,by rw[l1];exact s2,zX,by rw[l1];omega⟩,?_⟩;rw[l1];simp only[vc,ai,aq,az,b7,bQ,cq pj,Ap,Kx _ _ aP,aU,dm,du,aM,bc]
    |true=>
     have l1:(l.take (j+1)).filter (dj p)=(l.take j).filter (dj p)++[l[j]]:=by rw[pw];simp[aU]
     have gP:((l.take (j+1)).filter (dj p)).length=c+1:=by rw[l1,List.length_append,aB];rfl
     rw[aB]at s2 nG;have bz:=ff c;have dh:(decide ((c:Int)<((List.length s):Int)))=true:=am (by omega);have c7:=fL c (by omega);refine ⟨s.set c l[j],⟨by rw[List.length_set];exact s1,?_,?_,?_⟩,?_⟩
     ·rw[gP,l1];have lU:c<(s.set c l[j]).length:=by rw[List.length_set];omega
      rw[eV lU,List.take_set_of_le (Nat.le_refl _),s2];simp
     ·rw[List.drop_set_of_lt (by omega)];exact zX
     ·rw[gP];omega
     ·rw[gP,aB];simp only[vc,ai,aq,bz,dh,az,b7,bQ,cq pj,Ap,Kx _ _ aP,aU,du,dm,bc,c7])
   (fun s ar=>by
    obtain ⟨s1,s2,hT,nG⟩:=ar;rw[show i0+1+(l.length-(i0+1))=l.length by omega]at s2 hT nG ⊢;rw[List.take_length]at s2 nG ⊢;have ai:(decide (((l.length:Nat):Int)<((List.length s):Int)))=false:=bg (by omega);exact ⟨_,⟨s,rfl,s1,s2⟩,by simp only[vc,ai,aM]⟩) l (by
    refine ⟨rfl,?_,rfl,?_⟩
    ·rw[Nat.add_zero,ad,List.length_take,Nat.min_eq_left (by omega)]
    ·rw[Nat.add_zero,ad,List.length_take];omega)
  obtain ⟨s,rfl,s1,s2⟩:=g2;have fH:((((l.take (i0+1+0)).filter (dj p)).length:Nat):Int)=(i0:Int):=by rw[Nat.add_zero,ad,List.length_take,Nat.min_eq_left (by omega)]
  have kD:MV ((i0:Int),((i0+1:Nat):Int),l,p,())=some (.inl ((((l.filter (dj p)).length:Nat):Int),s,p,())):=by
   rw[<-fH];exact g1
  have ln:(l.filter (dj p)).length<=l.length:=List.length_filter_le _ _;obtain ⟨c,aB⟩: ∃c,(l.filter (dj p)).length=c:=⟨_,rfl⟩;rw[aB]at kD s2 ln;have bz:=ff c;have dh:(decide ((c:Int)<=((List.length s):Int)))=true:=am (by omega);have c7:(decide (((List.length s):Int)<=((List.length s):Int)))=true:=am (Int.le_refl _);have iP: ∀r:List ak,(decide ((c:Int)<=((List.length (List.take c s++r)):Int)))=true:=fun r=>am (by rw[List.length_append,List.length_take];omega)
  have ld: ∀r:List ak,List.take c (List.take c s++r)=l.filter (dj p):=fun r=>by
   rw[List.take_append_of_le_length (by rw[List.length_take];omega),List.take_take,Nat.min_self,s2]
  simp only[zr,aa,e,aM,gy,kD,bz,dh,cL,b7,Bool.true_and,az,bQ,List.append_assoc,iP,ld,c7]
theorem Lj (t:List ak) (L:List ah) (aU:t.length<1000000000000) (lS:L.length<=100000000000000000):xi (t,L,())=some (t.filter (dj L),()):=by
 simp only[xi,DC t aU,aqB t L (by omega) lS]
def cG (l:List ah) (k:af):Bool:=l.any fun s=>bX s k
theorem l7 (a b:List ah) (k:af):cG (a++b) k=(cG a k||cG b k):=List.any_append
theorem jS (s:ah) (k:af):cG [s] k=bX s k:=by simp[cG]
def ez (B:Nat) (l:List ah):Prop:= ∀s∈l,s.1.length<=B/\s.2.1.length<=B
abbrev afP (a b:ah):Prop:=a.2.1≠[]/\Op.bytesLess a.2.1 b.1=true
structure mc (l:List ah):Prop where
 ne: ∀s∈l,h3 s=false
 gp:l.Pairwise afP
theorem DG {s:ah}:h3 s=false↔(s.2.1=[]\/Op.bytesLess s.1 s.2.1=true):=by
 unfold h3;by_cases h:s.2.1=[]
 ·rw[am h];simp[h]
 ·rw[bg h];rcases hi s.1 s.2.1 with ad |ad |ad
  ·have al:decide (s.2.1=s.1)=false:=bg (fun e=>js ad e.symm);simp[ad,hJ ad,al]
  ·simp[h,ad,gN]
  ·simp[h,ad,hJ ad]
theorem Y8 {s:ah} (h:h3 s=true) (k:af):bX s k=false:=by
 cases bC:bX s k
 ·rfl
 ·obtain ⟨aa,ad⟩:=eU.1 bC;have:h3 s=false:=DG.2 (by
   rcases ad with ad |ad
   ·exact .inl ad
   ·right;rcases hi s.1 k with al |al |al
    ·exact e6 al ad
    ·rw[al];exact ad
    ·rw[aa]at al;cases al)
  rw[h]at this;cases this
theorem anP (l:List ah) (k:af):cG (l.filter bG) k=cG l k:=by
 unfold cG
 induction l with
 |nil=>rfl
 |cons s l aO=>
  rw[List.filter_cons,List.any_cons];cases h:bG s
  ·have:h3 s=true:=by unfold bG at h;simpa using h
   rw[if_neg (by simp),aO,Y8 this,Bool.false_or]
  ·rw[if_pos rfl,List.any_cons,aO]
theorem apk {a b:List ah} (h:a.Perm b) (k:af):cG a k=cG b k:=by
 unfold cG;rw[Bool.eq_iff_iff,List.any_eq_true,List.any_eq_true];constructor
 ·rintro ⟨s,ar,av⟩;exact ⟨s,h.mem_iff.1 ar,av⟩
 ·rintro ⟨s,ar,av⟩;exact ⟨s,h.mem_iff.2 ar,av⟩
theorem apv {a s:ah} (aa:Op.bytesLess s.1 a.1=false) (ad:Op.bytesLess a.2.1 s.1=false) (al:hc a.2.1 s.2.1=true) (k:af):bX (a.1,s.2.1,()) k=(bX a k||bX s k):=by
 unfold hc at al;rw[bB,Bool.not_eq_true',decide_eq_false_iff_not,Bool.or_eq_true,dd]at al;obtain ⟨aE,aZ⟩:=al;rw[Bool.eq_iff_iff,Bool.or_eq_true,eU,eU,eU];show (Op.bytesLess k a.1=false/\(s.2.1=[]\/Op.bytesLess k s.2.1=true))↔_;constructor
 ·rintro ⟨a1,k2⟩;cases av:Op.bytesLess k a.2.1
  ·exact .inr ⟨mQ ad av,k2⟩
  ·exact .inl ⟨a1,.inr rfl⟩
 ·rintro (⟨a1,k2⟩|⟨a1,k2⟩)
  ·refine ⟨a1,?_⟩;rcases k2 with k2 |k2
   ·exact absurd k2 aE
   ·rcases aZ with aZ |aZ
    ·exact .inl aZ
    ·exact .inr (e6 k2 aZ)
  ·exact ⟨mQ aa a1,k2⟩
theorem apV {a s:ah} (aa:Op.bytesLess s.1 a.1=false) (al:hc a.2.1 s.2.1=false) (k:af):bX a k=(bX a k||bX s k):=by
 have:bX s k=true->bX a k=true:=by
  intro av;refine LF ?_ av;unfold sJ;rw[aa];unfold hc at al;by_cases e:a.2.1=[]
  ·rw[am e];rfl
  ·rw[bg e]at al ⊢;simp only[dm,Bool.true_and,Bool.or_eq_false_iff]at al;simp[al.1,al.2]
 cases h:bX s k
 ·rw[Bool.or_false]
 ·rw[this h];rfl
theorem apy (m:List ah) (ar:RD m) (cp: ∀s∈m,h3 s=false) (ao:m.length<1000000000000) (B:Nat) (cM:ez B m):
  ∃r,JZ ((m.length:Int),(0:Int),[],m,())=some (.inl (r,()))/\(∀k,cG r k=cG m k)/\r.length<=m.length/\mc r/\ez B r:=by
 obtain ⟨z,aa,r,rfl,ad⟩:=dY (b:=rl) (fun i (o:List ah)=>((m.length:Int),(i:Int),o,m,())) m.length
  (fun i o=>(∀k,cG o k=cG (m.take i) k)/\o.length<=i/\mc o/\ez B o/\((i=0/\o=[])\/ ∃p a,o=p++[a]/\ ∃j,∃ay:j<m.length,j<i/\a.1=m[j].1))
  (fun z=> ∃r,z=.inl (r,())/\(∀k,cG r k=cG m k)/\r.length<=m.length/\mc r/\ez B r) (by omega)
  (fun i ab o an=>by
   left;obtain ⟨eM,ib,wK,ot,AU⟩:=an;have ai:=gA (i:=i) (l:=m) (by omega);have b6:(decide ((0:Int)<=((i:Nat):Int)))=true:=am (by omega);have w:=fa (j:=i) (by omega);have lV:=List.getElem_mem ab;have FH: ∀k,cG (m.take (i+1)) k=(cG (m.take i) k||bX m[i] k):=by
    intro k;rw[eV ab,l7,jS]
   have room: ∀o:List ah,o.length<=i->(decide ((List.length o+List.length ([m[i]]:List (ah)))*32<=bm))=true:=fun o h=>am (by rw[dV];simp;omega)
   rcases AU with ⟨rfl,rfl⟩|⟨p,a,rfl,j,ay,nv,NG⟩
   ·refine ⟨[m[0]],⟨fun k=> ?_,by simp,⟨fun s ar=> ?_,List.pairwise_singleton _ _⟩,fun s ar=> ?_,.inr ⟨[],m[0],rfl,0,ab,by omega,rfl⟩⟩,?_⟩
    ·rw[FH k];simp[cG]
    ·obtain rfl:=List.mem_singleton.1 ar;exact cp _ lV
    ·obtain rfl:=List.mem_singleton.1 ar;exact cM _ lV
    ·have aq:(!decide ((((List.length ([]:List ah)):Int):Int)=(0:Int)))=false:=rfl;have aj:=room [] (by simp);simp only[rl,tt,ai,b6,b7,az,bQ,cq ab,aq,aM,aj,w,List.nil_append]
   ·have vJ: ∀d,List.getD (p++[a]) p.length d=a:=fun d=>Dk (P:=p) (Q:=[]) rfl
    have hlen:(p++[a]).length=p.length+1:=by simp
    have aq:(!decide ((((List.length (p++[a])):Int):Int)=(0:Int)))=true:=by rw[bg (by omega)];rfl
    have cV:i64.wrap (((List.length (p++[a])):Int)-1)=(p.length:Int):=by rw[cU (by omega)];omega
    have l0:p.length<(p++[a]).length:=by omega
    have eI:Op.bytesLess m[i].1 a.1=false:=by
     rw[NG];exact List.pairwise_iff_getElem.1 ar j i ay ab nv
    obtain ⟨ne,gp⟩:=wK;have No:=List.pairwise_append.1 gp;have app:a.2.1≠[]->Op.bytesLess a.2.1 m[i].1=true->((∀k,cG (p++[a]++[m[i]]) k=cG (m.take (i+1)) k)/\(p++[a]++[m[i]]).length<=i+1/\mc (p++[a]++[m[i]])/\ez B (p++[a]++[m[i]])/\((i+1=0/\(p++[a]++[m[i]])=[])\/ ∃p' bd,(p++[a]++[m[i]])=p'++[bd]/\ ∃j,∃ay:j<m.length,j<i+1/\bd.1=m[j].1)):=by
     intro g1 g2;refine ⟨fun k=>by rw[l7,eM k,jS,FH k],by simp at ib ⊢;omega,⟨fun s ar=> ?_,?_⟩,fun s ar=> ?_,.inr ⟨p++[a],m[i],rfl,i,ab,by omega,rfl⟩⟩
     ·rcases List.mem_append.1 ar with h |h
      ·exact ne s h
      ·obtain rfl:=List.mem_singleton.1 h;exact cp _ lV
     ·refine List.pairwise_append.2 ⟨gp,List.pairwise_singleton _ _,fun x aw y bf=> ?_⟩;obtain rfl:=List.mem_singleton.1 bf;rcases List.mem_append.1 aw with h |h
      ·obtain ⟨bj,bU⟩:=No.2.2 x h a (List.mem_singleton.2 rfl);refine ⟨bj,?_⟩;rcases hi a.1 m[i].1 with aZ |aZ |aZ
       ·exact e6 bU aZ
       ·rw[<-aZ];exact bU
       ·rw[eI]at aZ;cases aZ
      ·obtain rfl:=List.mem_singleton.1 h;exact ⟨g1,g2⟩
     ·rcases List.mem_append.1 ar with h |h
      ·exact ot s h
      ·obtain rfl:=List.mem_singleton.1 h;exact cM _ lV
    have join:(a.2.1=[]\/Op.bytesLess a.2.1 m[i].1=false)-> ∃t,QB (((List.length (p++[a])):Int),(m.length:Int),(i:Int),p++[a],m[i],m,())=some (.inl ((m.length:Int),((i+1:Nat):Int),t,m,()))/\
      ((∀k,cG t k=cG (m.take (i+1)) k)/\t.length<=i+1/\mc t/\ez B t/\((i+1=0/\t=[])\/ ∃p' bd,t=p'++[bd]/\ ∃j,∃ay:j<m.length,j<i+1/\bd.1=m[j].1)):=by
     intro g;obtain ⟨c,mE,kb⟩:=YQ a.2.1 m[i].2.1;simp only[QB,cV,dO l0,az,bQ,vJ,mE,kb,w];cases hle:hc a.2.1 m[i].2.1
     ·refine ⟨_,rfl,fun k=> ?_,by omega,⟨ne,gp⟩,ot,.inr ⟨p,a,rfl,j,ay,by omega,NG⟩⟩;rw[FH k,<-eM k,l7,jS,Bool.or_assoc,<-apV eI hle k]
     ·have g2:Op.bytesLess a.2.1 m[i].1=false:=by
       rcases g with g |g
       ·unfold hc at hle;rw[am g]at hle;cases hle
       ·exact g
      have jR:(p++[a]).set p.length (a.1,m[i].2.1,a.2.2)=p++[(a.1,m[i].2.1,())]:=by simp
      refine ⟨p++[(a.1,m[i].2.1,())],by rw[<-jR];rfl,fun k=> ?_,by simp at ib ⊢;omega,⟨fun s ar=> ?_,?_⟩,fun s ar=> ?_,.inr ⟨p,_,rfl,j,ay,by omega,NG⟩⟩
      ·have:=eM k;rw[l7,jS]at this;rw[FH k,<-this,l7,jS,apv eI g2 hle k,Bool.or_assoc]
      ·rcases List.mem_append.1 ar with h |h
       ·exact ne s (List.mem_append_left _ h)
       ·obtain rfl:=List.mem_singleton.1 h;have aR:=DG.1 (ne a (by simp));unfold hc at hle;rw[bB,Bool.not_eq_true',decide_eq_false_iff_not,Bool.or_eq_true,dd]at hle;refine DG.2 ?_;rcases hle.2 with aZ |aZ
        ·exact .inl aZ
        ·rcases aR with bu |bu
         ·exact absurd bu hle.1
         ·exact .inr (e6 bu aZ)
      ·refine List.pairwise_append.2 ⟨No.1,List.pairwise_singleton _ _,fun x aw y bf=> ?_⟩;obtain rfl:=List.mem_singleton.1 bf;exact No.2.2 x aw a (List.mem_singleton.2 rfl)
      ·rcases List.mem_append.1 ar with h |h
       ·exact ot s (List.mem_append_left _ h)
       ·obtain rfl:=List.mem_singleton.1 h;exact ⟨(ot a (by simp)).1,(cM _ lV).2⟩
    have aj:=room (p++[a]) ib;by_cases bC:a.2.1=[]
    ·obtain ⟨t,t1,t2⟩:=join (.inl bC);have bc:(!decide ((a.2.1:af)=([]:af)))=false:=by rw[am bC];rfl
     refine ⟨t,t2,?_⟩;simp only[rl,tt,ai,b6,b7,az,bQ,cq ab,aq,cV,dO l0,vJ,bC,cL,du,aM];exact t1
    ·cases bb:Op.bytesLess a.2.1 m[i].1
     ·obtain ⟨t,t1,t2⟩:=join (.inr bb);refine ⟨t,t2,?_⟩;simp only[rl,tt,ai,b6,b7,az,bQ,cq ab,aq,cV,dO l0,vJ,bC,decide_false,dm,bb,aM];exact t1
     ·refine ⟨p++[a]++[m[i]],app bC bb,?_⟩;simp only[rl,tt,ai,b6,b7,az,bQ,cq ab,aq,cV,dO l0,vJ,bC,decide_false,dm,bb,aj,w])
  (fun o an=>by
   obtain ⟨eM,ib,wK,ot,AU⟩:=an;have ai:=hk m;refine ⟨_,⟨o,rfl,fun k=> ?_,ib,wK,ot⟩,by simp only[rl,ai,aM]⟩;rw[eM k,List.take_length]) [] ⟨fun k=>by simp,by simp,⟨fun s ar=>(by cases ar),List.Pairwise.nil⟩,fun s ar=>(by cases ar),.inl ⟨rfl,rfl⟩⟩
 exact ⟨r,aa,ad⟩
theorem D9 (l:List ah) (ao:l.length<1000000000000) (B:Nat) (cM:ez B l):
  ∃r,tX (l,())=some (r,())/\(∀k,cG r k=cG l k)/\r.length<=l.length/\mc r/\ez B r:=by
 have ai:Fb (l,())=some (l,()):=by
  unfold Fb;have:(List.length ([]:List ah)+l.length)*32<=bm:=by rw[dV];simp;omega
  simp only[this,am,az]
 have aq:=aqC l (by omega);have ln:(l.filter bG).length<=l.length:=List.length_filter_le _ _;obtain ⟨m,bc,aP,ar⟩:=aql (l.filter bG) (by omega);have iU:m.length=(l.filter bG).length:=aP.length_eq;have oc: ∀s∈m,s∈l/\bG s=true:=fun s h=>List.mem_filter.1 (aP.mem_iff.1 h)
 obtain ⟨r,bz,aa,ad,al,aE⟩:=apy m ar (fun s h=>by
  have:=(oc s h).2;unfold bG at this;simpa using this) (by omega) B (fun s h=>cM s (oc s h).1)
 exact ⟨r,by simp only[tX,ai,aq,bc,bz],fun k=>by rw[aa,apk aP,anP],by omega,al,aE⟩
theorem yi (a b:ah) (k:af):bX (gd a b) k=(bX a k&&bX b k):=by
 cases h:iI a b
 ·have e:gd a b=([97],([97],())):=by unfold gd;rw[h];rfl
  rw[e,Y8 (by decide)];cases aa:bX a k
  ·rfl
  ·cases ad:bX b k
   ·rfl
   ·rw[yL.2 ⟨k,aa,ad⟩]at h;cases h
 ·rw[Bool.eq_iff_iff,bB];exact apu h
theorem ahd (a b:af):jC a b=a\/jC a b=b:=by
 unfold jC;cases Op.bytesLess a b
 ·exact .inl rfl
 ·exact .inr rfl
theorem apr (a b:af):iG a b=a\/iG a b=b:=by
 unfold iG;cases hc b a
 ·exact .inl rfl
 ·exact .inr rfl
theorem Zh {a b:ah} {B:Nat} (aa:1<=B) (aR:a.1.length<=B/\a.2.1.length<=B) (ag:b.1.length<=B/\b.2.1.length<=B):(gd a b).1.length<=B/\(gd a b).2.1.length<=B:=by
 unfold gd;cases iI a b
 ·simp;omega
 ·show (jC a.1 b.1).length<=B/\(iG a.2.1 b.2.1).length<=B;refine ⟨?_,?_⟩
  ·rcases ahd a.1 b.1 with e |e<;>rw[e]
   ·exact aR.1
   ·exact ag.1
  ·rcases apr a.2.1 b.2.1 with e |e<;>rw[e]
   ·exact aR.2
   ·exact ag.2
theorem ago (r:List ah) (aQ:mc r) (ao:r.length<1000000000000) (B:Nat) (cM:ez B r):
  ∃g,ye (r,())=some (g,())/\(∀k,cG g k= !cG r k)/\g.length<=r.length+1/\ez B g:=by
 have Fy: ∀k:af,Op.bytesLess k []=false:=fun k=>by cases k<;>rfl
 have aqE:(∀k,cG ([]:List ah) k=true↔(cG (r.take 0) k=false/\Op.bytesLess k []=true))/\([]:List ah).length<=0/\ez B []/\([]:af).length<=B/\(∀s∈r.drop 0,Op.bytesLess s.1 []=false)/\(∀s∈r.take 0,s.2.1≠[]/\Op.bytesLess [] s.2.1=false)/\(0=0->([]:af)=[]):=by
  refine ⟨fun k=> ?_,Nat.le_refl _,fun s ar=>(by cases ar),Nat.zero_le _,fun s ar=>Fy _,fun s ar=>(by simp at ar),fun _=>rfl⟩;rw[Fy k];simp[cG]
 obtain ⟨z,aa,ad⟩:=dY (b:=rm) (fun i (q:af×List ah)=>(q.1,r,(r.length:Int),(i:Int),q.2,())) r.length
  (fun i q=>(∀k,cG q.2 k=true↔(cG (r.take i) k=false/\Op.bytesLess k q.1=true))/\q.2.length<=i/\ez B q.2/\q.1.length<=B/\(∀s∈r.drop i,Op.bytesLess s.1 q.1=false)/\(∀s∈r.take i,s.2.1≠[]/\Op.bytesLess q.1 s.2.1=false)/\(i=0->q.1=[]))
  (fun z=>(∃g,z=.inl (g,())/\(∀k,cG g k= !cG r k)/\g.length<=r.length+1/\ez B g)\/(∃lo g,z=.inr (lo,g,())/\(∀k,cG (g++[(lo,[],())]) k= !cG r k)/\g.length<=r.length/\ez B (g++[(lo,[],())]))) (by omega)
  (fun i ab q aN=>by
   obtain ⟨lo,o⟩:=q;obtain ⟨bj,bU,da,c8,fk,gv,lC⟩:=aN;simp only at bj bU da c8 fk gv lC;have ai:=gA (i:=i) (l:=r) (by omega);have b6:(decide ((0:Int)<=((i:Nat):Int)))=true:=am (by omega);have w:=fa (j:=i) (by omega);have lV:=List.getElem_mem ab;have ax:r.drop i=r[i]::r.drop (i+1):=List.drop_eq_getElem_cons ab;have room:(decide ((List.length o+List.length ([(lo,r[i].1,())]:List (ah)))*32<=bm))=true:=am (by rw[dV];simp;omega);have eI:Op.bytesLess r[i].1 lo=false:=fk _ (by rw[ax];exact List.mem_cons_self);have cp:=DG.1 (aQ.ne _ lV);have iV: ∀k,cG (r.take (i+1)) k=(cG (r.take i) k||bX r[i] k):=by
    intro k;rw[eV ab,l7,jS]
   have before: ∀k,Op.bytesLess k r[i].1=true->bX r[i] k=false:=by
    intro k av;cases h:bX r[i] k
    ·rfl
    ·rw[(eU.1 h).1]at av;cases av
   have after: ∀k,Op.bytesLess k lo=false->cG (r.take i) k=false:=by
    intro k av;unfold cG;rw[List.any_eq_false];intro s ar h;obtain ⟨g1,g2⟩:=gv s ar;rcases (eU.1 h).2 with h |h
    ·exact g1 h
    ·have:=mQ g2 av;rw[this]at h;cases h
   have ad7: ∀k,Op.bytesLess k lo=true->Op.bytesLess k r[i].1=true:=by
    intro k av;rcases hi lo r[i].1 with h |h |h
    ·exact e6 av h
    ·rw[<-h];exact av
    ·rw[eI]at h;cases h
   have abk: ∀dg:List ah,(dg=o++[(lo,r[i].1,())]/\r[i].1≠[]\/dg=o/\r[i].1=[])-> ∀k,cG dg k=true↔(cG (r.take (i+1)) k=false/\(r[i].2.1=[]\/Op.bytesLess k r[i].2.1=true)):=by
    intro dg gZ k;rw[iV k,Bool.or_eq_false_iff];rcases gZ with ⟨rfl,asn⟩|⟨rfl,lk⟩
    ·rw[l7,jS,Bool.or_eq_true,bj k,eU];show _\/(Op.bytesLess k lo=false/\(r[i].1=[]\/Op.bytesLess k r[i].1=true))↔_;constructor
     ·rintro (⟨al,aE⟩|⟨al,aE⟩)
      ·have aZ:=ad7 k aE;refine ⟨⟨al,before k aZ⟩,?_⟩;rcases cp with h |h
       ·exact .inl h
       ·exact .inr (e6 aZ h)
      ·have aZ:=aE.resolve_left asn;refine ⟨⟨after k al,before k aZ⟩,?_⟩;rcases cp with h |h
       ·exact .inl h
       ·exact .inr (e6 aZ h)
     ·rintro ⟨⟨al,aE⟩,aZ⟩;have bu:Op.bytesLess k r[i].1=true:=by
       cases dq:Op.bytesLess k r[i].1
       ·rw[eU.2 ⟨dq,aZ⟩]at aE;cases aE
       ·rfl
      cases h4:Op.bytesLess k lo
      ·exact .inr ⟨rfl,.inr bu⟩
      ·exact .inl ⟨al,rfl⟩
    ·rw[bj k];have asd: ∀k,Op.bytesLess k lo=true->False:=by
      intro k av;have:=ad7 k av;rw[lk]at this;cases k<;>cases this
     constructor
     ·rintro ⟨al,aE⟩;exact (asd k aE).elim
     ·rintro ⟨⟨al,aE⟩,aZ⟩;have:bX r[i] k=true:=eU.2 ⟨by rw[lk];cases k<;>rfl,aZ⟩;rw[this]at aE;cases aE
   have tail:r[i].2.1=[]->r.take (i+1)=r:=by
    intro h;rcases Nat.lt_or_ge (i+1) r.length with ad |ad
    ·have:=List.pairwise_iff_getElem.1 aQ.gp i (i+1) ab ad (by omega);exact absurd h this.1
    ·exact List.take_of_length_le ad
   have done: ∀dg:List ah,(dg=o++[(lo,r[i].1,())]/\r[i].1≠[]\/dg=o/\r[i].1=[])->r[i].2.1=[]->(∀k,cG dg k= !cG r k):=by
    intro dg gZ h k;have:=abk dg gZ k;rw[tail h]at this;cases av:cG r k
    ·exact this.2 ⟨av,.inl h⟩
    ·cases an:cG dg k
     ·rfl
     ·rw[(this.1 an).1]at av;cases av
   have go: ∀dg:List ah,(dg=o++[(lo,r[i].1,())]/\r[i].1≠[]\/dg=o/\r[i].1=[])->r[i].2.1≠[]->(dg.length<=i+1/\ez B dg)->
     ((∀k,cG dg k=true↔(cG (r.take (i+1)) k=false/\Op.bytesLess k r[i].2.1=true))/\dg.length<=i+1/\ez B dg/\r[i].2.1.length<=B/\(∀s∈r.drop (i+1),Op.bytesLess s.1 r[i].2.1=false)/\(∀s∈r.take (i+1),s.2.1≠[]/\Op.bytesLess r[i].2.1 s.2.1=false)/\(i+1=0->r[i].2.1=[])):=by
    intro dg gZ h ⟨al,aE⟩;refine ⟨fun k=> ?_,al,aE,(cM _ lV).2,fun s ar=> ?_,fun s ar=> ?_,fun h=>(by omega)⟩
    ·rw[abk dg gZ k];constructor
     ·rintro ⟨a,b⟩;exact ⟨a,b.resolve_left h⟩
     ·rintro ⟨a,b⟩;exact ⟨a,.inr b⟩
    ·obtain ⟨j,ay,rfl⟩:=List.mem_iff_getElem.1 ar;rw[List.length_drop]at ay;rw[List.getElem_drop];have:=List.pairwise_iff_getElem.1 aQ.gp i (i+1+j) ab (by omega) (by omega);exact hJ this.2
    ·rw[eV ab]at ar;rcases List.mem_append.1 ar with ar |ar
     ·obtain ⟨g1,g2⟩:=gv s ar;refine ⟨g1,?_⟩;have aZ:=cp.resolve_left h;exact mQ g2 (mQ eI (hJ aZ))
     ·obtain rfl:=List.mem_singleton.1 ar;exact ⟨h,gN _⟩
   by_cases pn:r[i].1=[]
   ·have aq:(!decide ((r[i].1:af)=([]:af)))=false:=by rw[am pn];rfl
    by_cases iB:r[i].2.1=[]
    ·right;refine ⟨_,.inl ⟨o,rfl,done o (.inr ⟨rfl,pn⟩) iB,by omega,da⟩,?_⟩;simp only[rm,ai,b6,b7,az,bQ,cq ab,pn,iB,cL,du,aM]
    ·left;refine ⟨(r[i].2.1,o),go o (.inr ⟨rfl,pn⟩) iB ⟨by omega,da⟩,?_⟩;simp only[rm,ai,b6,b7,az,bQ,cq ab,pn,iB,cL,decide_false,du,aM,w]
   ·have zZ:ez B (o++[(lo,r[i].1,())]):=by
     intro s ar;rcases List.mem_append.1 ar with h |h
     ·exact da s h
     ·obtain rfl:=List.mem_singleton.1 h;exact ⟨c8,(cM _ lV).1⟩
    by_cases iB:r[i].2.1=[]
    ·right;refine ⟨_,.inl ⟨o++[(lo,r[i].1,())],rfl,done _ (.inl ⟨rfl,pn⟩) iB,by simp;omega,zZ⟩,?_⟩;simp only[rm,ai,b6,b7,az,bQ,cq ab,pn,iB,cL,decide_false,dm,aM,room]
    ·left;refine ⟨(r[i].2.1,o++[(lo,r[i].1,())]),go _ (.inl ⟨rfl,pn⟩) iB ⟨by simp;omega,zZ⟩,?_⟩;simp only[rm,ai,b6,b7,az,bQ,cq ab,pn,iB,cL,decide_false,dm,aM,room,w])
  (fun q aN=>by
   obtain ⟨lo,o⟩:=q;obtain ⟨bj,bU,da,c8,fk,gv,lC⟩:=aN;simp only at bj bU da c8 fk gv lC;have ai:=hk r;rw[List.take_length]at bj gv;refine ⟨_,.inr ⟨lo,o,rfl,fun k=> ?_,bU,fun s ar=> ?_⟩,by simp only[rm,ai,aM]⟩
   ·rw[l7,jS,Bool.eq_iff_iff,Bool.or_eq_true,bj k,eU,Bool.not_eq_true'];show _\/(Op.bytesLess k lo=false/\(([]:af)=[]\/_))↔_;constructor
    ·rintro (⟨al,-⟩|⟨al,-⟩)
     ·exact al
     ·unfold cG;rw[List.any_eq_false];intro s ar h;obtain ⟨g1,g2⟩:=gv s ar;rcases (eU.1 h).2 with h |h
      ·exact g1 h
      ·have:=mQ g2 al;rw[this]at h;cases h
    ·intro h;cases av:Op.bytesLess k lo
     ·exact .inr ⟨rfl,.inl rfl⟩
     ·exact .inl ⟨h,rfl⟩
   ·rcases List.mem_append.1 ar with h |h
    ·exact da s h
    ·obtain rfl:=List.mem_singleton.1 h;exact ⟨c8,by simp⟩) ([],[]) aqE
 have db:J1 (([]:af),r,(r.length:Int),(0:Int),[],())=some z:=aa;rcases ad with ⟨g,rfl,al,aE,aZ⟩|⟨lo,g,rfl,al,aE,aZ⟩
 ·exact ⟨g,by simp only[ye,db],al,aE,aZ⟩
 ·have room:(decide ((List.length g+List.length ([(lo,[],())]:List (ah)))*32<=bm))=true:=am (by rw[dV];simp;omega);exact ⟨g++[(lo,[],())],by simp only[ye,db,room,az],al,by simp;omega,aZ⟩
theorem Lg {α:Type} (L:List (List α)) (c:Nat) (h: ∀a∈L,a.length<=c):L.flatten.length<=L.length*c:=by
 induction L with
 |nil=>simp
 |cons a L aO=>
  rw[List.flatten_cons,List.length_append,List.length_cons];have aa:=h a List.mem_cons_self;have ad:=aO (fun b ag=>h b (List.mem_cons_of_mem _ ag));rw[Nat.add_mul];omega
theorem agt (l g:List ah) (n i:Nat) (L:List ah) (o:List ah) (x:ah) (gs:List ah) (ao:l.length<1000000000) (an:o.length+l.length<1000000000000):
  Jv (l,(n:Int),(i:Int),l,(l.length:Int),(0:Int),o,x,gs,())=some (.inl (l,(n:Int),(i:Int),o++l.map (gd x),gs,())):=by
 obtain ⟨z,aa,rfl⟩:=dY (b:=Bi) (fun j (q:List ah)=>(l,(n:Int),(i:Int),l,(l.length:Int),(j:Int),q,x,gs,())) l.length (fun j q=>q=o++(l.take j).map (gd x)) (fun z=>z=.inl (l,(n:Int),(i:Int),o++l.map (gd x),gs,())) (by omega)
  (fun j ay q aN=>by
   left;have ai:=gA (i:=j) (l:=l) (by omega);have b6:(decide ((0:Int)<=((j:Nat):Int)))=true:=am (by omega);have w:=fa (j:=j) (by omega);have room:(decide ((List.length q+List.length ([gd x l[j]]:List (ah)))*32<=bm))=true:=am (by rw[dV,aN];simp;omega);refine ⟨q++[gd x l[j]],by rw[aN,eV ay,List.map_append,List.append_assoc];rfl,?_⟩;simp only[Bi,ai,b6,b7,az,bQ,cq ay,C0,room,w])
  (fun q aN=>by
   have ai:=hk l;rw[List.take_length]at aN;exact ⟨_,rfl,by simp only[Bi,ai,aM,aN]⟩) o (by simp)
 exact aa
theorem ags (l m:List ah) (ao:l.length<1000000000) (hm:m.length<100) (B:Nat) (aa:1<=B) (cM:ez B l) (iS:ez B m):
  ∃r,Da (l,m,())=some (r,())/\(∀k,cG r k=(cG l k&& !cG m k))/\r.length<=(m.length+1)*l.length/\mc r/\ez B r:=by
 obtain ⟨n,ai,cC,dk,n3,n4⟩:=D9 m (by omega) B iS;obtain ⟨g,aq,g1,g2,g3⟩:=ago n n3 (by omega) B n4;have hmul:g.length*l.length<=(m.length+1)*l.length:=Nat.mul_le_mul_right _ (by omega);have awy:(m.length+1)*l.length<=100*l.length:=Nat.mul_le_mul_right _ (by omega);obtain ⟨z,ad,rfl⟩:=dY (b:=Bx) (fun i (q:List ah)=>(l,(g.length:Int),(i:Int),q,g,())) g.length (fun i q=>q=(g.take i).flatMap fun x=>l.map (gd x)) (fun z=>z=.inl (g.flatMap (fun x=>l.map (gd x)),())) (by omega)
  (fun i ab q aN=>by
   left;have ai:=gA (i:=i) (l:=g) (by omega);have b6:(decide ((0:Int)<=((i:Nat):Int)))=true:=am (by omega);have w:=fa (j:=i) (by omega);have asz:q.length<=i*l.length:=by
    rw[aN,List.flatMap_def];have:=Lg ((g.take i).map fun x=>l.map (gd x)) l.length (by
     intro a aR;obtain ⟨x,-,rfl⟩:=List.mem_map.1 aR;simp)
    rw[List.length_map,List.length_take]at this;exact Nat.le_trans this (Nat.mul_le_mul_right _ (by omega))
   have sZ:i*l.length<=100*l.length:=Nat.mul_le_mul_right _ (by omega);have bc:=agt l g g.length i l q g[i] g ao (by omega);refine ⟨q++l.map (gd g[i]),by rw[eV ab,List.flatMap_append,<-aN];simp,?_⟩;simp only[Bx,ai,b6,b7,az,bQ,cq ab,bc,w])
  (fun q aN=>by
   have ai:=hk g;rw[List.take_length]at aN;exact ⟨_,rfl,by simp only[Bx,ai,aM,aN]⟩) [] (by simp)
 have gO:Ju (l,(g.length:Int),(0:Int),[],g,())=_:=ad;have ln:(g.flatMap fun x=>l.map (gd x)).length<=g.length*l.length:=by
  rw[List.flatMap_def];have:=Lg (g.map fun x=>l.map (gd x)) l.length (by
   intro a aR;obtain ⟨x,-,rfl⟩:=List.mem_map.1 aR;simp)
  rw[List.length_map]at this;exact this
 obtain ⟨r,bz,au,aL,bF,cN⟩:=D9 (g.flatMap fun x=>l.map (gd x)) (by omega) B (by
  intro s ar;obtain ⟨x,aw,ar⟩:=List.mem_flatMap.1 ar;obtain ⟨y,bf,rfl⟩:=List.mem_map.1 ar;exact Zh aa (g3 x aw) (cM y bf))
 refine ⟨r,by simp only[Da,ai,aq,gO,bz],fun k=> ?_,by omega,bF,cN⟩;rw[au k,<-cC k,<-g1 k];unfold cG;rw[Bool.eq_iff_iff,bB,List.any_eq_true,List.any_eq_true,List.any_eq_true];constructor
 ·rintro ⟨s,ar,av⟩;obtain ⟨x,aw,ar⟩:=List.mem_flatMap.1 ar;obtain ⟨y,bf,rfl⟩:=List.mem_map.1 ar;rw[yi,bB]at av;exact ⟨⟨y,bf,av.2⟩,x,aw,av.1⟩
 ·rintro ⟨⟨y,bf,al⟩,x,aw,aE⟩;refine ⟨gd x y,List.mem_flatMap.2 ⟨x,aw,List.mem_map.2 ⟨y,bf,rfl⟩⟩,?_⟩;rw[yi,aE,al];rfl
theorem sb {p:af} (h:p∈eD):(c2 p).2.1≠[]/\(c2 p).1=p/\(c2 p).2.1.length<=4/\Op.bytesLess p (c2 p).2.1=true:=by
 have aa:eD.all (fun p=> !decide ((c2 p).2.1=[])&&decide ((c2 p).2.1.length<=4)&&Op.bytesLess p (c2 p).2.1)=true:=by kernel_rfl
 have:=List.all_eq_true.1 aa p h;rw[bB,bB,Bool.not_eq_true',decide_eq_false_iff_not,dd]at this;exact ⟨this.1.1,rfl,this.1.2,this.2⟩
theorem l6 {p:af} (h:p∈eD) (k:af):bX (c2 p) k=bI k p:=by
 obtain ⟨-,-,al⟩:=jr p (iR p h);exact uK al k
theorem agw {x y:ah} {t f:af} (aU:t∈eD) (aK:f∈eD) (aw:x=gd y (c2 t)) (cp:iI y (c2 t)=true) {B:Nat} (cM:x.1.length<=B/\x.2.1.length<=B) (iS:B<=100000) (qT:4<=B):
  ∃r,BY (x,t,f,())=some (r,())/\(r.1.length<=B+4/\r.2.1.length<=B+4)/\ ∀k,bX r k=true↔(bI k f=true/\bX x (eL f t k)=true):=by
 obtain ⟨t1,t2,t3,t4⟩:=sb aU;obtain ⟨f1,f2,f3,f4⟩:=sb aK;obtain ⟨a1,jl,jm⟩:=yL.1 cp;have OH:bX x a1=true:=by rw[aw,yi,jl,jm];rfl
 have asY: ∀k,bX x k=true->bI k t=true:=by
  intro k av;rw[aw,yi,bB]at av;rw[<-l6 aU];exact av.2
 have ex:x=(jC y.1 (c2 t).1,(iG y.2.1 (c2 t).2.1,())):=by rw[aw];unfold gd;rw[cp];rfl
 have eI:x.1=jC y.1 t:=by rw[ex];show jC y.1 (c2 t).1=_;rw[t2]
 have iB:x.2.1=iG y.2.1 (c2 t).2.1:=by rw[ex]
 obtain ⟨eo,a2⟩:=eU.1 OH;have abv:x.2.1≠[]:=by
  rw[iB];unfold iG;cases ao:hc (c2 t).2.1 y.2.1
  ·show y.2.1≠[];intro e;unfold hc at ao;rw[bg t1,e]at ao;cases ao
  ·exact t1
 have a2:=a2.resolve_left abv;have aq8:Op.bytesLess (c2 t).2.1 x.2.1=false:=by
  rw[iB];unfold iG;cases ao:hc (c2 t).2.1 y.2.1
  ·show Op.bytesLess (c2 t).2.1 y.2.1=false;unfold hc at ao;rw[bg t1]at ao;simp only[dm,Bool.true_and,Bool.or_eq_false_iff]at ao;exact ao.2
  ·exact gN _
 have are:Op.bytesLess x.1 t=false:=by
  rw[eI];have:=(DQ (a:=y.1) (b:=t) (k:=jC y.1 t)).1 (gN _);exact this.2
 have abw:Op.bytesLess x.1 x.2.1=true:=by
  rcases hi x.1 a1 with al |al |al
  ·exact e6 al a2
  ·rw[al];exact a2
  ·rw[eo]at al;cases al
 have Nu:bI x.1 t=true:=asY x.1 (eU.2 ⟨gN _,.inr abw⟩);obtain ⟨tO,mL⟩:=iE.1 Nu;have aeQ:=p1 t aU;have abd:=p1 f aK;have cZ:=Dn x.1 t f (by omega);have cr:=Dn x.2.1 t f (by omega);obtain ⟨gG,-,-⟩:=jr f (iR f aK);rw[Nu,az]at cZ;have abe:(eL t f x.1).length<=B+4:=by
  have:=D8 (t:=t) (f:=f) (k:=x.1) Nu;omega
 have fin: ∀k,bI k f=true-> ∃r,k=f++r/\eL f t k=t++r:=by
  intro k av;obtain ⟨r,aA⟩:=iE.1 av;exact ⟨r,aA,by rw[aA,jW]⟩
 have ln: ∀k,Op.bytesLess k (f++tO)=false->Op.bytesLess k f=false:=by
  intro k av;have:Op.bytesLess (f++tO) f=false:=by
   have h:=yE f tO;rw[<-l6 aK]at h;exact (eU.1 h).1
  exact mQ this av
 cases ag:bI x.2.1 t with
 |true=>
  rw[ag,az]at cr;obtain ⟨Bc,Oq⟩:=iE.1 ag;refine ⟨(eL t f x.1,eL t f x.2.1,()),by simp only[BY,gG,cZ,cr,az],⟨abe,?_⟩,fun k=> ?_⟩
  ·have:=D8 (t:=t) (f:=f) (k:=x.2.1) ag;show (eL t f x.2.1).length<=_;omega
  ·have ai:eL t f x.1=f++tO:=by rw[mL,jW]
   have aq:eL t f x.2.1=f++Bc:=by rw[Oq,jW]
   rw[ai,aq,eU,eU];show (Op.bytesLess k (f++tO)=false/\(f++Bc=[]\/Op.bytesLess k (f++Bc)=true))↔_;constructor
   ·rintro ⟨aa,ad⟩;have ad:Op.bytesLess k (f++Bc)=true:=by
     rcases ad with ad |ad
     ·obtain ⟨al,aE⟩:=List.append_eq_nil_iff.1 ad;rw[al]at aK;exact absurd aK (by decide)
     ·exact ad
    have n9:bI k f=true:=by
     rw[<-l6 aK];refine eU.2 ⟨ln k aa,.inr ?_⟩;have h:=yE f Bc;rw[<-l6 aK]at h;rcases (eU.1 h).2 with h |h
     ·exact absurd h f1
     ·exact e6 ad h
    obtain ⟨r,rfl,aA⟩:=fin k n9;rw[l4]at aa ad;refine ⟨n9,?_⟩;rw[aA,mL,Oq,l4,l4];exact ⟨aa,.inr ad⟩
   ·rintro ⟨n9,al,aE⟩;obtain ⟨r,rfl,aA⟩:=fin k n9;have aE:=aE.resolve_left abv;rw[aA,mL,l4]at al;rw[aA,Oq,l4]at aE;rw[l4,l4];exact ⟨al,.inr aE⟩
 |false=>
  rw[ag,aM]at cr;have aq7:x.2.1=(c2 t).2.1:=by
   rcases hi x.2.1 (c2 t).2.1 with h |h |h
   ·have:bX (c2 t) x.2.1=true:=eU.2 ⟨mQ (by rw[t2];exact are) (hJ abw),.inr h⟩;rw[l6 aU,ag]at this;cases this
   ·exact h
   ·rw[aq8]at h;cases h
  refine ⟨(eL t f x.1,(c2 f).2.1,()),by simp only[BY,gG,cZ,cr,aM],⟨abe,by show (c2 f).2.1.length<=_;omega⟩,fun k=> ?_⟩;have ai:eL t f x.1=f++tO:=by rw[mL,jW]
  rw[ai,eU,eU];show (Op.bytesLess k (f++tO)=false/\((c2 f).2.1=[]\/Op.bytesLess k (c2 f).2.1=true))↔_;constructor
  ·rintro ⟨aa,ad⟩;have ad:=ad.resolve_left f1;have n9:bI k f=true:=by
    rw[<-l6 aK];exact eU.2 ⟨ln k aa,.inr ad⟩
   obtain ⟨r,rfl,aA⟩:=fin k n9;rw[l4]at aa;refine ⟨n9,?_⟩;rw[aA,mL,l4];refine ⟨aa,.inr ?_⟩;have h:=yE t r;rw[<-l6 aU]at h;rw[aq7];exact ((eU.1 h).2).resolve_left t1
  ·rintro ⟨n9,al,aE⟩;obtain ⟨r,rfl,aA⟩:=fin k n9;rw[aA,mL,l4]at al;rw[l4];have h:=n9;rw[<-l6 aK]at h;exact ⟨al,(eU.1 h).2⟩
def RN (m:a6) (l r:List ah):Prop:= ∀k,cG r k=true↔ ∃bk st,cG l bk=true/\en m bk=.old k st
theorem Ei (l m:List ah) (ao:l.length<1000000000) (hm:m.length<100) (B:Nat) (aa:1<=B) (cM:ez B l) (iS:ez B m):
  ∃r,wS (m,l,())=some (l,r,())/\(∀k,cG r k=(cG l k&& !cG m k))/\r.length<=(m.length+1)*l.length/\mc r/\ez B r:=by
 obtain ⟨r,e,h⟩:=ags l m ao hm B aa cM iS;exact ⟨r,by simp only[wS,e],h⟩
theorem af4 (m:a6) (aK:m.2.2.2.2.1∈eD) (aU:m.2.2.2.2.2.1∈eD) (l out:List ah) (ao:l.length<1000000000) (an:out.length<100000000000) (B:Nat) (cM:ez B l) (iS:B<=100000) (qT:4<=B) (c:Int):
  ∃w,Pq ((l.length:Int),(0:Int),c,l,m,c2 m.2.2.2.2.2.1,out,())=some (.inl (c,l,out++w,()))/\w.length<=l.length/\ez (B+4) w/\
   ∀k,cG w k=true↔(bI k m.2.2.2.2.1=true/\cG l (eL m.2.2.2.2.1 m.2.2.2.2.2.1 k)=true):=by
 have FD:=sb aU;have aeQ:=p1 _ aU;obtain ⟨z,aa,w,rfl,ad⟩:=dY (b:=vA) (fun i (w:List ah)=>((l.length:Int),(i:Int),c,l,m,c2 m.2.2.2.2.2.1,out++w,())) l.length
  (fun i w=>w.length<=i/\ez (B+4) w/\ ∀k,cG w k=true↔(bI k m.2.2.2.2.1=true/\cG (l.take i) (eL m.2.2.2.2.1 m.2.2.2.2.2.1 k)=true))
  (fun z=> ∃w,z=.inl (c,l,out++w,())/\w.length<=l.length/\ez (B+4) w/\ ∀k,cG w k=true↔(bI k m.2.2.2.2.1=true/\cG l (eL m.2.2.2.2.1 m.2.2.2.2.2.1 k)=true)) (by omega)
  (fun i ab w hw=>by
   left;obtain ⟨cV,c9,fy⟩:=hw;have ai:=gA (i:=i) (l:=l) (by omega);have b6:(decide ((0:Int)<=((i:Nat):Int)))=true:=am (by omega);have Hd:=fa (j:=i) (by omega);have lV:=List.getElem_mem ab;have iV: ∀k,cG (l.take (i+1)) k=(cG (l.take i) k||bX l[i] k):=by
    intro k;rw[eV ab,l7,jS]
   have zR: ∀k,bI k m.2.2.2.2.1=true->bI (eL m.2.2.2.2.1 m.2.2.2.2.2.1 k) m.2.2.2.2.2.1=true:=fun k _=>sD
   cases As:iI l[i] (c2 m.2.2.2.2.2.1)
   ·have he:h3 (gd l[i] (c2 m.2.2.2.2.2.1))=true:=by rw[KI,As];rfl
    refine ⟨w,⟨by omega,c9,fun k=> ?_⟩,?_⟩
    ·rw[fy k,iV,Bool.or_eq_true];constructor
     ·rintro ⟨al,aE⟩;exact ⟨al,.inl aE⟩
     ·rintro ⟨al,aE |aE⟩
      ·exact ⟨al,aE⟩
      ·have aZ:=zR k al;rw[<-l6 aU]at aZ;rw[yL.2 ⟨_,aE,aZ⟩]at As;cases As
    ·simp only[vA,ai,b6,b7,az,bQ,cq ab,C0,BI,he,du,aM,Hd]
   ·have he:h3 (gd l[i] (c2 m.2.2.2.2.2.1))=false:=by rw[KI,As];rfl
    obtain ⟨r,au,aL,bF⟩:=agw (x:=gd l[i] (c2 m.2.2.2.2.2.1)) aU aK rfl As (B:=B) (Zh (by omega) (cM _ lV) ⟨by rw[FD.2.1];omega,by omega⟩) iS qT;have room:(decide ((List.length (out++w)+List.length ([r]:List (ah)))*32<=bm))=true:=am (by rw[dV];simp;omega);refine ⟨w++[r],⟨by simp;omega,fun s ar=> ?_,fun k=> ?_⟩,?_⟩
    ·rcases List.mem_append.1 ar with h |h
     ·exact c9 s h
     ·obtain rfl:=List.mem_singleton.1 h;exact aL
    ·rw[l7,jS,Bool.or_eq_true,fy k,bF k,iV,yi,Bool.or_eq_true,bB];constructor
     ·rintro (⟨al,aE⟩|⟨al,aE,-⟩)
      ·exact ⟨al,.inl aE⟩
      ·exact ⟨al,.inr aE⟩
     ·rintro ⟨al,aE |aE⟩
      ·exact .inl ⟨al,aE⟩
      ·refine .inr ⟨al,aE,?_⟩;rw[l6 aU];exact zR k al
    ·rw[<-List.append_assoc];simp only[vA,ai,b6,b7,az,bQ,cq ab,C0,BI,he,dm,au,room,Hd])
  (fun w hw=>by
   have ai:=hk l;rw[List.take_length]at hw;exact ⟨_,⟨w,rfl,hw⟩,by simp only[vA,ai,aM]⟩) [] ⟨Nat.le_refl _,fun s ar=>(by cases ar),fun k=>(by simp[cG])⟩
 rw[List.append_nil]at aa;exact ⟨w,aa,ad⟩
theorem ahN (i:Int) (m:a6) (hm:fM m) (tb:m.1=3->m.2.2.2.1.1.length<=200/\m.2.2.2.1.2.1.length<=200) (l:List ah) (ao:l.length<100000000) (B:Nat) (cM:ez B l) (iS:B<=10000) (qT:200<=B) (jq:mc l):
  ∃r,nY (i,m,(0:Int),l,())=some (true,0,r,())/\RN m l r/\r.length<=4*l.length/\ez (B+4) r/\mc r:=by
 have zG: ∀r:List ah,ez B r->ez (B+4) r:=fun r h s ar=>by
  have:=h s ar;omega
 have zJ:(decide ((-1:Int)= -1))=true:=rfl;have one: ∀k∈iX,oz (k,())=some ((k,k++[0],()),())/\ez B [(k,k++[0],())]:=by
  intro k av;refine ⟨(qm av).1,fun s ar=> ?_⟩;obtain rfl:=List.mem_singleton.1 ar;have:=(rT k av).2;constructor
  ·show k.length<=B;omega
  ·show (k++[0]).length<=B;simp;omega
 by_cases aa:m.1=1
 ·obtain ⟨eM,ib⟩:=one m.2.1 (hm.key (.inl aa));obtain ⟨r,e,g1,g2,g3,g4⟩:=Ei l [(m.2.1,m.2.1++[0],())] (by omega) (by simp) B (by omega) cM ib;refine ⟨r,by simp only[nY,qC,aa,cL,az,eM,e,zJ],fun k=> ?_,by simp at g2;omega,zG r g4,g3⟩;rw[g1 k,jS,Ea,bB,Bool.not_eq_true',decide_eq_false_iff_not];unfold en;simp only[aa,if_true];constructor
  ·rintro ⟨ad,al⟩;exact ⟨k,none,ad,by rw[if_neg (fun e=>al e.symm)]⟩
  ·rintro ⟨bk,st,ad,al⟩;by_cases e:m.2.1=bk
   ·rw[if_pos e]at al;cases al
   ·rw[if_neg e]at al;injection al with ai aq
    rw[<-ai];exact ⟨ad,fun h=>e h.symm⟩
 ·have d1:decide (m.1=1)=false:=bg aa;by_cases ad:m.1=2
  ·obtain ⟨eM,ib⟩:=one m.2.1 (hm.key (.inr ad));obtain ⟨r,e,g1,g2,g3,g4⟩:=Ei l [(m.2.1,m.2.1++[0],())] (by omega) (by simp) B (by omega) cM ib;refine ⟨r,by simp only[nY,qC,ad,d1,cL,az,aM,eM,e,zJ,show decide ((2:Int)=1)=false from rfl],fun k=> ?_,by simp at g2;omega,zG r g4,g3⟩;rw[g1 k,jS,Ea,bB,Bool.not_eq_true',decide_eq_false_iff_not];constructor
   ·rintro ⟨aE,al⟩;refine ⟨k,none,aE,?_⟩;unfold en;rw[if_neg aa,if_pos ad,if_neg (fun e=>al e.symm)]
   ·rintro ⟨bk,st,aE,al⟩;unfold en at al;rw[if_neg aa,if_pos ad]at al;by_cases e:m.2.1=bk
    ·rw[if_pos e]at al;cases al
    ·rw[if_neg e]at al;injection al with ai aq
     rw[<-ai];exact ⟨aE,fun h=>e h.symm⟩
  ·have d2:decide (m.1=2)=false:=bg ad;by_cases al:m.1=3
   ·obtain ⟨r,e,g1,g2,g3,g4⟩:=Ei l [m.2.2.2.1] (by omega) (by simp) B (by omega) cM (fun s ar=>by
     obtain rfl:=List.mem_singleton.1 ar;have:=tb al;omega)
    refine ⟨r,by simp only[nY,qC,al,cL,az,aM,e,zJ,show decide ((3:Int)=1)=false from rfl,show decide ((3:Int)=2)=false from rfl],fun k=> ?_,by simp at g2;omega,zG r g4,g3⟩;rw[g1 k,jS,bB,Bool.not_eq_true'];constructor
    ·rintro ⟨aE,aZ⟩;refine ⟨k,none,aE,?_⟩;unfold en;rw[if_neg aa,if_neg ad,if_pos al,if_neg (by rw[aZ];simp)]
    ·rintro ⟨bk,st,aE,aZ⟩;unfold en at aZ;rw[if_neg aa,if_neg ad,if_pos al]at aZ;by_cases e:bX m.2.2.2.1 bk=true
     ·rw[if_pos e]at aZ;cases aZ
     ·rw[if_neg e]at aZ;injection aZ with ai aq
      rw[<-ai];exact ⟨aE,by simpa using e⟩
   ·have d3:decide (m.1=3)=false:=bg al;by_cases bu:m.1=6
    ·refine ⟨l,by simp only[nY,qC,AH,bu,cL,az,aM,zJ,show decide ((6:Int)=1)=false from rfl,show decide ((6:Int)=2)=false from rfl,show decide ((6:Int)=3)=false from rfl,show decide ((6:Int)=4)=false from rfl,show decide ((6:Int)=5)=false from rfl],fun k=> ?_,by omega,zG l cM,jq⟩;constructor
     ·intro aE;refine ⟨k,(if bX m.2.2.2.1 k=true then some m.2.2.2.2.2.2.1 else none),aE,?_⟩;unfold en;rw[if_neg aa,if_neg ad,if_neg al,if_pos bu]
     ·rintro ⟨bk,st,aE,aZ⟩;unfold en at aZ;rw[if_neg aa,if_neg ad,if_neg al,if_pos bu]at aZ;injection aZ with ai aq
      rw[<-ai];exact aE
    ·have an:=hm.mv aa ad al bu;obtain ⟨rz,-,-⟩:=jr _ (iR _ an.from_);obtain ⟨tE,-,-⟩:=jr _ (iR _ an.to_);obtain ⟨awa,awb,awc,-⟩:=sb an.from_;obtain ⟨awR,awS,awT,-⟩:=sb an.to_;have abd:=p1 _ an.from_;have aeQ:=p1 _ an.to_;have rest: ∀gone:List ah,gone.length<=2->ez B gone->(∀k,cG gone k=true↔(bI k m.2.2.2.2.2.1=true\/(m.1=4/\bI k m.2.2.2.2.1=true)))->
       ∃r,AI ((-1:Int),l,m,c2 m.2.2.2.2.2.1,gone,())=some (true,0,r,())/\RN m l r/\r.length<=4*l.length/\ez (B+4) r/\mc r:=by
      intro gone abR nq abS;obtain ⟨a,ai,eo,a2,a3,a4⟩:=Ei l gone (by omega) (by omega) B (by omega) cM nq;have aro:(gone.length+1)*l.length<=3*l.length:=Nat.mul_le_mul_right _ (by omega);obtain ⟨w,aq,cV,c9,fy⟩:=af4 m an.from_ an.to_ l a (by omega) (by omega) B cM (by omega) (by omega) (-1);obtain ⟨r,bc,au,aL,bF,cN⟩:=D9 (a++w) (by rw[List.length_append];omega) (B+4) (by
       intro s ar;rcases List.mem_append.1 ar with h |h
       ·exact zG a a4 s h
       ·exact c9 s h)
      rw[List.length_append]at aL;refine ⟨r,by simp only[AI,ai,aq,bc,zJ,cL,az],fun k=> ?_,by omega,cN,bF⟩;rw[au k,l7,Bool.or_eq_true,fy k,eo k,bB,Bool.not_eq_true'];have arR:cG gone k=false↔ ¬(bI k m.2.2.2.2.2.1=true\/(m.1=4/\bI k m.2.2.2.2.1=true)):=by
       rw[<-abS k];simp
      constructor
      ·rintro (⟨aE,aZ⟩|⟨aE,aZ⟩)
       ·have ix:=arR.1 aZ;refine ⟨k,none,aE,?_⟩;unfold en;rw[if_neg aa,if_neg ad,if_neg al,if_neg bu,if_neg (fun h=>ix (.inr h)),if_neg (fun h=>ix (.inl h))]
       ·refine ⟨eL m.2.2.2.2.1 m.2.2.2.2.2.1 k,none,aZ,?_⟩;have ag:bI (eL m.2.2.2.2.1 m.2.2.2.2.2.1 k) m.2.2.2.2.2.1=true:=sD;unfold en;rw[if_neg aa,if_neg ad,if_neg al,if_neg bu,if_neg (fun h=>by have:=an.not_both h.2;rw[ag]at this;cases this),if_pos ag];obtain ⟨x,aw⟩:=iE.1 aE;rw[aw,jW,jW]
      ·rintro ⟨bk,st,aE,aZ⟩;unfold en at aZ;rw[if_neg aa,if_neg ad,if_neg al,if_neg bu]at aZ;by_cases a7:m.1=4/\bI bk m.2.2.2.2.1=true
       ·rw[if_pos a7]at aZ;cases aZ
       ·rw[if_neg a7]at aZ;by_cases aY:bI bk m.2.2.2.2.2.1=true
        ·rw[if_pos aY]at aZ;injection aZ with ai aq
         obtain ⟨x,aw⟩:=iE.1 aY;rw[aw,jW]at ai;right;rw[<-ai,jW,<-aw];exact ⟨yE _ _,aE⟩
        ·rw[if_neg aY]at aZ;injection aZ with ai aq
         left;rw[<-ai];exact ⟨aE,(by
          have: ¬(bI bk m.2.2.2.2.2.1=true\/(m.1=4/\bI bk m.2.2.2.2.1=true)):=fun h=>h.elim aY a7
          rw[<-abS bk]at this;simpa using this)⟩
     have MN: ∀p∈eD,(c2 p).1.length<=B/\(c2 p).2.1.length<=B:=by
      intro p aP;obtain ⟨-,bU,da,-⟩:=sb aP;have:=p1 p aP;rw[bU];omega
     rcases an.kind with aE |aZ
     ·have room:(decide ((List.length ([c2 m.2.2.2.2.2.1]:List (ah))+List.length ([c2 m.2.2.2.2.1]:List (ah)))*32<=bm))=true:=by rw[dV];rfl
      obtain ⟨r,e,aA⟩:=rest [c2 m.2.2.2.2.2.1,c2 m.2.2.2.2.1] (by simp) (fun s ar=>by
       rcases List.mem_cons.1 ar with rfl |ar
       ·exact MN _ an.to_
       ·obtain rfl:=List.mem_singleton.1 ar;exact MN _ an.from_) (fun k=>by
       have:cG [c2 m.2.2.2.2.2.1,c2 m.2.2.2.2.1] k=(bI k m.2.2.2.2.2.1||bI k m.2.2.2.2.1):=by
        simp[cG,l6 an.to_,l6 an.from_]
       rw[this,Bool.or_eq_true];constructor
       ·rintro (h |h)
        ·exact .inl h
        ·exact .inr ⟨aE,h⟩
       ·rintro (h |⟨-,h⟩)
        ·exact .inl h
        ·exact .inr h)
      have dx:AI ((-1:Int),l,m,c2 m.2.2.2.2.2.1,([c2 m.2.2.2.2.2.1]:List ah)++[c2 m.2.2.2.2.1],())=some (true,0,r,()):=e;have d4:decide (m.1=4)=true:=am aE;exact ⟨r,by simp only[nY,qC,AH,d1,d2,d3,d4,cL,az,aM,tE,rz,room,dx],aA⟩
     ·obtain ⟨r,e,aA⟩:=rest [c2 m.2.2.2.2.2.1] (by simp) (fun s ar=>by
       obtain rfl:=List.mem_singleton.1 ar;exact MN _ an.to_) (fun k=>by
       rw[jS,l6 an.to_];constructor
       ·exact fun h=>.inl h
       ·rintro (h |⟨h,-⟩)
        ·exact h
        ·rw[aZ]at h;exact absurd h (by decide))
      have d4:decide (m.1=4)=false:=bg (by omega);have d5:decide (m.1=5)=true:=am aZ;exact ⟨r,by simp only[nY,qC,AH,d1,d2,d3,d4,d5,cL,az,aM,tE,e],aA⟩
theorem DF {st:Option Int} {x:Src} {k:af}:(∃s2,iN st x=.old k s2)↔ ∃s1,x=.old k s1:=by
 cases x with
 |gen v n=>exact ⟨fun ⟨_,h⟩=>(by cases h),fun ⟨_,h⟩=>(by cases h)⟩
 |gone=>exact ⟨fun ⟨_,h⟩=>(by cases h),fun ⟨_,h⟩=>(by cases h)⟩
 |old k' gg=>
  constructor
  ·rintro ⟨s2,h⟩;injection h with aa ad
   exact ⟨gg,by rw[aa]⟩
  ·rintro ⟨s1,h⟩;injection h with aa ad
   exact ⟨st.or gg,by rw[aa];rfl⟩
theorem Zo (m:a6) (k:af): ∀(r:List a6) (bk:af),(∃st,eC (r++[m]) bk=.old k st)↔ ∃k' s1 s2,eC r bk=.old k' s1/\en m k'=.old k s2
 |[],bk=>by
  show (∃st,eC [m] bk=.old k st)↔_;rw[show eC [m] bk=(match en m bk with
   | .gen v n=>.gen v n
   | .gone=>.gone
   | .old k' st=>iN st (eC [] k')) from rfl]
  cases e:en m bk with
  |gen v n=>
   constructor
   ·rintro ⟨_,h⟩;cases h
   ·rintro ⟨k',s1,s2,aa,ad⟩;injection aa with al aE
    rw[<-al,e]at ad;cases ad
  |gone=>
   constructor
   ·rintro ⟨_,h⟩;cases h
   ·rintro ⟨k',s1,s2,aa,ad⟩;injection aa with al aE
    rw[<-al,e]at ad;cases ad
  |old a1 st=>
   show (∃s,iN st (.old a1 none)=.old k s)↔_;rw[DF];constructor
   ·rintro ⟨s1,h⟩;injection h with al aE
    exact ⟨bk,none,st,rfl,by rw[e,al]⟩
   ·rintro ⟨k',s1,s2,aa,ad⟩;injection aa with al aE
    rw[<-al,e]at ad;injection ad with aZ bu
    exact ⟨none,by rw[aZ]⟩
 |a::r,bk=>by
  show (∃st,eC (a::(r++[m])) bk=.old k st)↔_;rw[K9]
  conv=>rhs;rw[K9]
  cases e:en a bk with
  |gen v n=>
   constructor
   ·rintro ⟨_,h⟩;cases h
   ·rintro ⟨k',s1,s2,aa,ad⟩;cases aa
  |gone=>
   constructor
   ·rintro ⟨_,h⟩;cases h
   ·rintro ⟨k',s1,s2,aa,ad⟩;cases aa
  |old a1 st=>
   show (∃s,iN st (eC (r++[m]) a1)=.old k s)↔ ∃k' s1 s2,iN st (eC r a1)=.old k' s1/\en m k'=.old k s2;rw[DF,Zo m k r a1];constructor
   ·rintro ⟨k',s1,s2,aa,ad⟩;obtain ⟨hT,al⟩:=DF.2 ⟨s1,aa⟩;exact ⟨k',hT,s2,al,ad⟩
   ·rintro ⟨k',s1,s2,aa,ad⟩;obtain ⟨hT,al⟩:=DF.1 ⟨s1,aa⟩;exact ⟨k',hT,s2,al,ad⟩
theorem gW.ends {m:a6} (h:gW m):m.2.2.2.1.1.length<=200/\m.2.2.2.1.2.1.length<=200:=by
 obtain ⟨q,k,v,f,t,s,n,rfl,aN,aQ,ke,pr⟩:=h.form;have Mv:q=0\/q=1\/q=2\/q=3\/q=4\/q=5:=by omega
 rcases Mv with rfl |rfl |rfl |rfl |rfl |rfl
 ·exact ⟨Nat.zero_le _,Nat.zero_le _⟩
 ·exact ⟨Nat.zero_le _,Nat.zero_le _⟩
 ·exact ⟨ke,pr⟩
 ·exact ⟨Nat.zero_le _,Nat.zero_le _⟩
 ·exact ⟨Nat.zero_le _,Nat.zero_le _⟩
 ·exact ⟨ke,pr⟩
theorem ahB {j:Nat} (h:j<13):4^j<100000000:=by
 have:4^j<=4^12:=Nat.pow_le_pow_right (by omega) (by omega);omega
theorem agH (s:ah) (l:List a6) (ao: ∀m∈l,gW m) (aQ:l.length<=13) (B:Nat) (ar:s.1.length<=B/\s.2.1.length<=B) (cM:B<=5000) (qT:200<=B):
  ∃r,BX (s,l,())=some (r,())/\(∀k,cG r k=true↔ ∃bk st,bX s bk=true/\eC l.reverse bk=.old k st)/\r.length<=4^l.length/\ez (B+4*l.length) r:=by
 obtain ⟨n,ai,cC,dk,n3,n4⟩:=D9 [s] (by simp) B (fun x aw=>by
  obtain rfl:=List.mem_singleton.1 aw;exact ar)
 have b6:i64.wrap (((List.length l):Int)-1)=((l.length:Int)-1):=by rw[cU (by omega)]
 obtain ⟨z,aa,r,rfl,ad⟩:=dY (b:=ze) (fun j (q:List ah)=>(((l.length:Int)-1-(j:Int)),(0:Int),l,q,())) l.length
  (fun j q=>(∀k,cG q k=true↔ ∃bk st,bX s bk=true/\eC (l.reverse.take j) bk=.old k st)/\q.length<=4^j/\ez (B+4*j) q/\mc q)
  (fun z=> ∃r,z=.inr ((0:Int),l,r,())/\(∀k,cG r k=true↔ ∃bk st,bX s bk=true/\eC l.reverse bk=.old k st)/\r.length<=4^l.length/\ez (B+4*l.length) r) (by omega)
  (fun j ay q aN=>by
   left;obtain ⟨bj,bU,da,c8⟩:=aN;obtain ⟨i,ab⟩: ∃i:Nat,l.length-1-j=i:=⟨_,rfl⟩;have sZ:i<l.length:=by omega
   have N0:j<l.reverse.length:=by rw[List.length_reverse];exact ay
   have Oo:l.reverse[j]=l[i]:=by
    rw[List.getElem_reverse];congr 1
   have cW:((l.length:Int)-1-(j:Int))=(i:Int):=by omega
   have a7:(decide ((i:Int)>=(0:Int)))=true:=am (by omega);have aY:=ff i;have c3:(decide ((i:Int)<(List.length l:Int)))=true:=am (by omega);have fe:i64.wrap ((i:Int)-1)=((l.length:Int)-1-((j+1:Nat):Int)):=by rw[cU (by omega)];omega
   have hm:=ao _ (List.getElem_mem sZ);have vR:=ahB (j:=j) (by omega);obtain ⟨r,g1,g2,g3,g4,g5⟩:=ahN (i:Int) l[i] hm.ok (fun _=>hm.ends) q (by omega) (B+4*j) da (by omega) (by omega) c8;refine ⟨r,⟨fun k=> ?_,?_,?_,g5⟩,?_⟩
   ·rw[g2 k];have FG:=fun bk=>Zo l[i] k (l.reverse.take j) bk
    rw[<-Oo]at FG ⊢;simp only[<-eV N0]at FG;constructor
    ·rintro ⟨a1,st,al,aE⟩;obtain ⟨bk,im,aZ,bu⟩:=(bj a1).1 al;obtain ⟨s2,dq⟩:=(FG bk).2 ⟨a1,im,st,bu,aE⟩;exact ⟨bk,s2,aZ,dq⟩
    ·rintro ⟨bk,st,al,aE⟩;obtain ⟨a1,s1,s2,aZ,bu⟩:=(FG bk).1 ⟨st,aE⟩;exact ⟨a1,s2,(bj a1).2 ⟨bk,s1,al,aZ⟩,bu⟩
   ·rw[Nat.pow_succ];omega
   ·rw[show B+4*(j+1)=B+4*j+4 by omega];exact g4
   ·rw[cW];simp only[ze,a7,aY,c3,az,b7,bQ,cq sZ,g1,du,aM,fe])
  (fun q aN=>by
   obtain ⟨bj,bU,da,c8⟩:=aN;have cW:((l.length:Int)-1-((l.length:Nat):Int))= -1:=by omega
   have ai:(decide ((-1:Int)>=(0:Int)))=false:=rfl;rw[List.take_of_length_le (by rw[List.length_reverse];exact Nat.le_refl _)]at bj;rw[cW];exact ⟨_,⟨q,rfl,bj,bU,da⟩,by simp only[ze,ai,aM]⟩) n ⟨fun k=>by
    rw[cC k,jS];constructor
    ·intro h;exact ⟨k,none,h,rfl⟩
    ·rintro ⟨bk,st,al,aE⟩;injection aE with aZ bu
     rw[<-aZ];exact al,by simpa using dk,by simpa using n4,n3⟩
 have db:MG (((l.length:Int)-1),(0:Int),l,n,())=some (.inr ((0:Int),l,r,())):=by
  have:=aa;simp only[Int.natCast_zero,Int.sub_zero]at this;exact this
 refine ⟨r,?_,ad⟩;simp only[BX,ai,zE,M3,b6,db,cL,az]
theorem Lc {t:List ak} {l:List a6} (ar:ck bx t) (h: ∀m∈l,fM m) (ao:t.length<=1200000) (aQ:l.length<=13) {B:Nat} (cM:100<=B) (iS:B<=900) (av: ∀p∈t,p.1.length<=B) (i:Nat) (ab:i<=l.length):
  ck bx (fu t (l.take i))/\(fu t (l.take i)).length<100000000000/\ ∀p∈fu t (l.take i),p.1.length<1000:=by
 have cb: ∀m∈l.take i,fM m:=fun m hm=>h m (List.mem_of_mem_take hm)
 have hlen:(l.take i).length=i:=by rw[List.length_take];omega
 refine ⟨yl ar _,?_,fun p aP=> ?_⟩
 ·have aa:=ZR (l.take i) t;rw[hlen]at aa;have ad:2^i<=2^13:=Nat.pow_le_pow_right (by omega) (by omega);have al:2^i*(t.length+1)<=2^13*1200001:=Nat.mul_le_mul ad (by omega);omega
 ·have:=Zt cb ar cM av p aP;omega
theorem agL {t:List ak} {l:List a6} (ar:ck bx t) (h: ∀m∈l,fM m) (ao:t.length<=1200000) (aQ:l.length<=13) {B:Nat} (cM:100<=B) (iS:B<=900) (av: ∀p∈t,p.1.length<=B):
  uJ (t,l,())=some (fu t l,()):=by
 obtain ⟨z,aa,rfl⟩:=dY (b:=ya) (fun i (q:List ak)=>(q,l,(l.length:Int),(i:Int),())) l.length (fun i q=>q=fu t (l.take i)) (fun z=>z=.inl (fu t l,())) (by omega)
  (fun i ab q aN=>by
   left;have ai:=gA (i:=i) (l:=l) (by omega);have b6:(decide ((0:Int)<=((i:Nat):Int)))=true:=am (by omega);have w:=fa (j:=i) (by omega);obtain ⟨eo,a2,a3⟩:=Lc ar h ao aQ cM iS av i (by omega);rw[<-aN]at eo a2 a3;have aq:=(ZT q l[i] (h _ (List.getElem_mem ab)) eo a2 a3).1;refine ⟨hz q l[i],by rw[aN,eV ab,Lb],?_⟩;simp only[ya,ai,b6,b7,az,bQ,cq ab,aq,w])
  (fun q aN=>by
   have ai:=hk l;rw[List.take_length]at aN;exact ⟨_,rfl,by simp only[ya,ai,aM,aN]⟩) t rfl
 have db:KK (t,l,(l.length:Int),(0:Int),())=some (.inl (fu t l,())):=aa;simp only[uJ,db]
abbrev uy:Type:=((bs)×(ah)×(List (ah))×(bO)×(Int)×Unit)->Option ((List (ak))×(bO)×(Int)×Unit)
theorem ap3 (r:uy) (id:Int) (s:ah) (l:List ah) (p:bO) (found out:List ak) (ao:out.length+found.length<=1000000000000):
  vq r ((found.length:Int),(0:Int),(0:Int),id,s,l,p,(0:Int),found,out,())=some (.inr ((0:Int),id,s,l,p,(0:Int),out++found,())):=by
 obtain ⟨z,aa,rfl⟩:=dY (b:=qB r) (fun i (q:List ak)=>((found.length:Int),(i:Int),(0:Int),id,s,l,p,(0:Int),found,q,())) found.length (fun i q=>q=out++found.take i) (fun z=>z=.inr ((0:Int),id,s,l,p,(0:Int),out++found,())) (by omega)
  (fun i ab q aN=>by
   left;have ai:=gA (i:=i) (l:=found) (by omega);have b6:(decide ((0:Int)<=((i:Nat):Int)))=true:=am (by omega);have w:=fa (j:=i) (by omega);have room:(decide ((List.length q+List.length ([found[i]]:List (ak)))*40<=bm))=true:=am (by rw[dV,aN];simp;omega);refine ⟨q++[found[i]],by rw[aN,eV ab,List.append_assoc],?_⟩;simp only[qB,Fh,Fi,ai,b6,b7,az,bQ,cq ab,cL,du,dm,aM,room,w])
  (fun q aN=>by
   have ai:=hk found;rw[List.take_length]at aN;exact ⟨_,rfl,by simp only[qB,ai,aM,aN]⟩) out (by simp)
 exact aa
theorem aph (r:uy) (id:Int) (s:ah) (l:List ah) (p:bO) (found out:List ak) (e:Int) (he:e≠0):
  vq r ((found.length:Int),(0:Int),(0:Int),id,s,l,p,e,found,out,())=some (.inl ((0:Int),id,s,l,p,e,out,()))\/
  vq r ((found.length:Int),(0:Int),(0:Int),id,s,l,p,e,found,out,())=some (.inr ((0:Int),id,s,l,p,e,out,())):=by
 cases found with
 |nil=>
  right;exact lB (n:=1) (by rw[jV];omega) (by
   have ai:(decide ((0:Int)<((List.length ([]:List ak)):Int)))=false:=rfl;simp only[dR,qB,ai,aM])
 |cons x found=>
  left;exact lB (n:=1) (by rw[jV];omega) (by
   have ai:(decide ((0:Int)<((List.length (x::found)):Int)))=true:=am (by rw[List.length_cons];omega);have aq:(decide (e=0))=false:=bg he;simp only[dR,qB,Fh,ai,aq,Int.le_refl,cL,b7,az,dm,du,aM])
theorem Z7 (r:uy) (id:Int) (s:ah) (l:List ah) (p:bO) (t out:List ak) (e:Int) (aU:t.length<100000000000) (an:out.length<=100000000000) (ao:l.length<=100000000000000000):
  vp r (t,(0:Int),id,s,l,p,e,out,())=some ((0:Int),id,s,l,p,e,out++(if e=0 then t.filter (dj l) else []),()):=by
 have ai:=Lj t l (by omega) ao;have aK:(t.filter (dj l)).length<=t.length:=List.length_filter_le _ _;by_cases he:e=0
 ·subst he;rw[if_pos rfl];have aq:=ap3 r id s l p (t.filter (dj l)) out (by omega);simp only[vp,ai,aq]
 ·rw[if_neg he,List.append_nil];rcases aph r id s l p (t.filter (dj l)) out e he with aq |aq
  ·simp only[vp,ai,aq]
  ·simp only[vp,ai,aq]
def qp (e:Int):Prop:=e=0\/e=112
def jd (buf:List a6) (L:af->Prop):af->Prop:=fun k=> ∃bk st,L bk/\eC buf.reverse bk=.old k st
def hI (l:List ah):af->Prop:=fun k=>cG l k=true
def aan (r:uy) (p:bO) (i:Nat) (s:ah) (c:List ak) (ue:(af->Prop)->Prop) (B M:Nat):Prop:=
 ∀(l:List ah) (e:Int) (out:List ak),l.length<=M->ez B l->qp e->out.length<=10000000000->
  ∃dx,qD r ((0:Int),(i:Int),s,l,p,e,out,())=some ((0:Int),(i:Int),s,l,p,dx,out++(if dx=0 then c.filter (dj l) else []),())/\qp dx/\(e≠0->dx≠0)/\(e=0->(dx≠0↔ue (hI l)))
theorem ahf (r:uy) (N:bs) (s:ah) (l:List ah) (p:bO) (e:Int) (B M:Nat) (ag: ∀m∈N.2.2.2.2.1,gW m) (aQ:N.2.2.2.2.1.length<=13) (ao:l.length<=M) (cM:ez B l) (iS:B<=5000) (qT:200<=B) (ng:M*4^N.2.2.2.2.1.length<=100000000000):
  ∃dI,FV r ([],l,(l.length:Int),(0:Int),p,e,N,s,[],())=some (.inl ([],p,e,N,s,dI,()))/\dI.length<=M*4^N.2.2.2.2.1.length/\ez (B+4*N.2.2.2.2.1.length) dI/\ ∀k,cG dI k=true↔jd N.2.2.2.2.1 (hI l) k:=by
 have aP:1<=4^N.2.2.2.2.1.length:=Nat.one_le_pow _ _ (by omega);have aby:M*1<=M*4^N.2.2.2.2.1.length:=Nat.mul_le_mul_left _ aP;obtain ⟨z,aa,dI,rfl,ad⟩:=dY (b:=vB r) (fun i (q:List ah)=>(([]:List ak),l,(l.length:Int),(i:Int),p,e,N,s,q,())) l.length
  (fun i q=>q.length<=i*4^N.2.2.2.2.1.length/\ez (B+4*N.2.2.2.2.1.length) q/\ ∀k,cG q k=true↔jd N.2.2.2.2.1 (hI (l.take i)) k)
  (fun z=> ∃dI,z=.inl ([],p,e,N,s,dI,())/\dI.length<=M*4^N.2.2.2.2.1.length/\ez (B+4*N.2.2.2.2.1.length) dI/\ ∀k,cG dI k=true↔jd N.2.2.2.2.1 (hI l) k) (by omega)
  (fun i ab q aN=>by
   left;obtain ⟨bj,bU,da⟩:=aN;have ai:=gA (i:=i) (l:=l) (by omega);have b6:(decide ((0:Int)<=((i:Nat):Int)))=true:=am (by omega);have w:=fa (j:=i) (by omega);have lV:=List.getElem_mem ab;obtain ⟨a,eo,a2,a3,a4⟩:=agH l[i] N.2.2.2.2.1 ag aQ B (cM _ lV) iS qT;have asy:(i+1)*4^N.2.2.2.2.1.length<=M*4^N.2.2.2.2.1.length:=Nat.mul_le_mul_right _ (by omega);rw[Nat.add_mul,Nat.one_mul]at asy;have room:(decide ((List.length q+List.length a)*32<=bm))=true:=am (by rw[dV];omega);refine ⟨q++a,⟨by rw[List.length_append,Nat.add_mul,Nat.one_mul];omega,fun s ar=> ?_,fun k=> ?_⟩,?_⟩
   ·rcases List.mem_append.1 ar with h |h
    ·exact bU s h
    ·exact a4 s h
   ·rw[l7,Bool.or_eq_true,da k,a2 k];have iV: ∀k,cG (l.take (i+1)) k=(cG (l.take i) k||bX l[i] k):=by
     intro k;rw[eV ab,l7,jS]
    constructor
    ·rintro (⟨bk,st,al,aE⟩|⟨bk,st,al,aE⟩)
     ·exact ⟨bk,st,by unfold hI at al ⊢;rw[iV,al];rfl,aE⟩
     ·exact ⟨bk,st,by unfold hI;rw[iV,al,Bool.or_true],aE⟩
    ·rintro ⟨bk,st,al,aE⟩;unfold hI at al;rw[iV,Bool.or_eq_true]at al;rcases al with al |al
     ·exact .inl ⟨bk,st,al,aE⟩
     ·exact .inr ⟨bk,st,al,aE⟩
   ·simp only[vB,ai,b6,b7,az,bQ,cq ab,eo,room,w])
  (fun q aN=>by
   obtain ⟨bj,bU,da⟩:=aN;have ai:=hk l;rw[List.take_length]at da;have:l.length*4^N.2.2.2.2.1.length<=M*4^N.2.2.2.2.1.length:=Nat.mul_le_mul_right _ ao;exact ⟨_,⟨q,rfl,by omega,bU,da⟩,by simp only[vB,ai,aM]⟩) [] ⟨by simp,fun s ar=>(by cases ar),fun k=>(by
    constructor
    ·intro h;simp[cG]at h
    ·rintro ⟨bk,st,al,aE⟩;simp[hI,cG]at al)⟩
 exact ⟨dI,aa,ad⟩
def qq (L:af->Prop) (q:ah):Prop:= ∃k,L k/\bX q k=true
theorem apK (dI:List ah) (q:ah):(dI.any fun w=>iI w q)=true↔qq (hI dI) q:=by
 rw[List.any_eq_true];constructor
 ·rintro ⟨w,hw,h⟩;obtain ⟨k,aa,ad⟩:=yL.1 h;exact ⟨k,List.any_eq_true.2 ⟨w,hw,aa⟩,ad⟩
 ·rintro ⟨k,aa,ad⟩;obtain ⟨w,hw,al⟩:=List.any_eq_true.1 aa;exact ⟨w,hw,yL.2 ⟨k,al,ad⟩⟩
theorem YN (r:uy) (p:bO) (N:bs) (s:ah) (parts:List ah) (ks:List Nat) (C:Nat->List ak) (ue:Nat->ah->(af->Prop)->Prop) (B M:Nat)
  (av:N.2.2.1=dL ks) (aP:parts.length=ks.length) (jl:1<=ks.length) (awq:ks.length<=6) (tb:pW (s,N.2.1,())=some (parts,())) (ag: ∀m∈N.2.2.2.2.1,gW m) (aQ:N.2.2.2.2.1.length<=13)
  (iS:B<=5000) (qT:200<=B) (ng:M*4^N.2.2.2.2.1.length<=100000000000)
  (dc: ∀j,j<ks.length->nK (List.getD parts j cS) (C (ks.getD j 0))/\(C (ks.getD j 0)).length<=200000)
  (aA: ∀j,j<ks.length->aan r p (ks.getD j 0) (List.getD parts j cS) (C (ks.getD j 0)) (ue (ks.getD j 0) (List.getD parts j cS)) (B+4*N.2.2.2.2.1.length) (M*4^N.2.2.2.2.1.length))
  (l:List ah) (e:Int) (ao:l.length<=M) (cM:ez B l) (he:qp e):
  ∃dI dx j,ii r (N,s,l,p,e,())=some (((ks.take j).flatMap C).filter (dj dI),p,dx,())/\(∀k,cG dI k=true↔jd N.2.2.2.2.1 (hI l) k)/\qp dx/\j<=ks.length/\(dx=0->j=ks.length)/\(e≠0->dx≠0)/\
   (e=0->(dx≠0↔ ∃j,j<ks.length/\qq (jd N.2.2.2.2.1 (hI l)) (List.getD parts j cS)/\ue (ks.getD j 0) (List.getD parts j cS) (jd N.2.2.2.2.1 (hI l)))):=by
 obtain ⟨dI,cC,dk,n3,n4⟩:=ahf r N s l p e B M ag aQ ao cM iS qT ng;have jR:hI dI=jd N.2.2.2.2.1 (hI l):=by
  funext k
  exact propext (n4 k)
 have bY:N.2.2.1≠[]:=by rw[av];exact aha (by omega)
 have FA:=am7 bY tb;have arO: ∀j,j<=ks.length->((ks.take j).flatMap C).length<=j*200000:=by
  intro j ay;have:=Lg ((ks.take j).map C) 200000 (by
   intro a aR;obtain ⟨k,av,rfl⟩:=List.mem_map.1 aR;obtain ⟨i,ab,rfl⟩:=List.mem_iff_getElem.1 av;rw[List.length_take]at ab;rw[List.getElem_take];have:=(dc i (by omega)).2;rw[cq (by omega)]at this;exact this)
  rw[List.length_map,List.length_take,Nat.min_eq_left ay]at this;rw[List.flatMap_def];exact this
 obtain ⟨z,aa,dx,j,rfl,ad,al,aE,aZ,bu⟩:=dY (b:=sR r) (fun i (q:Int×List ak)=>(([]:List ak),(parts.length:Int),(i:Int),p,q.1,N,dI,parts,q.2,())) parts.length
  (fun i q=> ∃j,j<=i/\q.2=((ks.take j).flatMap C).filter (dj dI)/\qp q.1/\(q.1=0->j=i)/\(e≠0->q.1≠0)/\(e=0->(q.1≠0↔ ∃j,j<i/\qq (jd N.2.2.2.2.1 (hI l)) (List.getD parts j cS)/\ue (ks.getD j 0) (List.getD parts j cS) (jd N.2.2.2.2.1 (hI l)))))
  (fun z=> ∃dx j,z=.inr (p,dx,((ks.take j).flatMap C).filter (dj dI),())/\qp dx/\j<=ks.length/\(dx=0->j=ks.length)/\(e≠0->dx≠0)/\(e=0->(dx≠0↔ ∃j,j<ks.length/\qq (jd N.2.2.2.2.1 (hI l)) (List.getD parts j cS)/\ue (ks.getD j 0) (List.getD parts j cS) (jd N.2.2.2.2.1 (hI l))))) (by omega)
  (fun i ab q aN=>by
   left;obtain ⟨kA,out⟩:=q;obtain ⟨j,OV,dP,tj,tk,tl,pE⟩:=aN;simp only at dP tj tk tl pE;have lq:i<ks.length:=by omega
   have ai:=gA (i:=i) (l:=parts) (by omega);have b6:(decide ((0:Int)<=((i:Nat):Int)))=true:=am (by omega);have w:=fa (j:=i) (by omega);have Fp:=aos dI parts[i] (by omega);have N9:=apK dI parts[i];rw[jR]at N9;have vP:List.getD parts i cS=parts[i]:=cq ab;cases Fm:(dI.any fun w=>iI w parts[i])
   ·rw[Fm]at Fp;have Fz: ¬qq (jd N.2.2.2.2.1 (hI l)) parts[i]:=fun h=>by
     have:=N9.2 h;rw[Fm]at this;cases this
    refine ⟨(kA,out),?_,?_⟩
    ·by_cases mG:kA=0
     ·refine ⟨i+1,by omega,?_,tj,fun _=>rfl,tl,fun h=> ?_⟩
      ·rw[tk mG]at dP;have Fy:(C ks[i]).filter (dj dI)=[]:=by
        rw[List.filter_eq_nil_iff];intro x aw h;have:=(dc i lq).1;rw[cq lq,vP]at this;exact Fz ⟨x.1,by rw[<-jR];exact h,this x aw⟩
       rw[eV lq,List.flatMap_append,List.filter_append];simp only[List.flatMap_cons,List.flatMap_nil,List.append_nil,Fy];exact dP
      ·rw[pE h];constructor
       ·rintro ⟨hb,a,b⟩;exact ⟨hb,by omega,b⟩
       ·rintro ⟨hb,a,b,c⟩;rcases Nat.lt_succ_iff_lt_or_eq.1 a with a |a
        ·exact ⟨hb,a,b,c⟩
        ·subst a;rw[vP]at b;exact absurd b Fz
     ·refine ⟨j,by omega,dP,tj,fun h=>absurd h mG,tl,fun h=> ?_⟩;constructor
      ·intro _;obtain ⟨hb,a,b⟩:=(pE h).1 mG;exact ⟨hb,by omega,b⟩
      ·exact fun _=>mG
    ·simp only[sR,ai,b6,b7,az,bQ,cq ab,Fp,dm,w]
   ·rw[Fm]at Fp;have hm:qq (jd N.2.2.2.2.1 (hI l)) parts[i]:=N9.1 Fm;have Of:out.length<=10000000000:=by
     rw[dP];have a:=List.length_filter_le (dj dI) ((ks.take j).flatMap C);have b:=arO j (by omega);omega
    obtain ⟨aq,f1,f2,f3,f4⟩:=aA i lq dI kA out dk n3 tj Of;rw[cq lq,vP]at f1 f4;rw[jR]at f4;have bc:(decide (((i:Nat):Int)<((List.length N.2.2.1):Int)))=true:=am (by rw[av,iQ];omega);have bz:List.getD N.2.2.1 i 0=((ks[i]:Nat):Int):=by rw[av,tQ lq]
    refine ⟨(aq,out++(if aq=0 then (C ks[i]).filter (dj dI) else [])),?_,?_⟩
    ·by_cases kK:aq=0
     ·have mG:kA=0:=by
       rcases Classical.em (kA=0) with h |h
       ·exact h
       ·exact absurd kK (f3 h)
      refine ⟨i+1,by omega,?_,f2,fun _=>rfl,fun h=>absurd mG (tl h),fun h=> ?_⟩
      ·rw[tk mG]at dP;rw[eV lq,List.flatMap_append,List.filter_append,if_pos kK,dP];simp only[List.flatMap_cons,List.flatMap_nil,List.append_nil]
      ·constructor
       ·intro cb;exact absurd kK cb
       ·rintro ⟨hb,a,b,c⟩;rcases Nat.lt_succ_iff_lt_or_eq.1 a with a |a
        ·exact absurd mG ((pE h).2 ⟨hb,a,b,c⟩)
        ·subst a;rw[cq lq,vP]at c;exact absurd kK ((f4 mG).2 c)
     ·refine ⟨j,by omega,?_,f2,fun h=>absurd h kK,fun _=>kK,fun h=> ?_⟩
      ·show out++(if aq=0 then _ else [])=_;rw[if_neg kK,List.append_nil];exact dP
      ·constructor
       ·intro _;by_cases mG:kA=0
        ·refine ⟨i,by omega,by rw[vP];exact hm,?_⟩;rw[cq lq,vP];exact (f4 mG).1 kK
        ·obtain ⟨hb,a,b⟩:=(pE h).1 mG;exact ⟨hb,by omega,b⟩
       ·exact fun _=>kK
    ·simp only[sR,ai,b6,b7,az,bQ,cq ab,Fp,du,aM,bc,bz,pa,f1,cL,w])
  (fun q aN=>by
   obtain ⟨kA,out⟩:=q;obtain ⟨j,OV,dP,tj,tk,tl,pE⟩:=aN;simp only at dP tj tk tl pE;have ai:=hk parts;rw[aP]at OV tk pE;exact ⟨_,⟨kA,j,by rw[<-dP],tj,OV,tk,tl,pE⟩,by simp only[sR,ai,aM]⟩) (e,[]) ⟨0,Nat.le_refl _,by simp,he,fun _=>rfl,id,fun h=>⟨fun cb=>absurd h cb,fun ⟨j,a,_⟩=>absurd a (by omega)⟩⟩
 have db:FW r ([],(parts.length:Int),(0:Int),p,e,N,dI,parts,[],())=some (.inr (p,dx,((ks.take j).flatMap C).filter (dj dI),())):=aa;refine ⟨dI,dx,j,?_,n4,ad,al,aE,aZ,bu⟩;simp only[ii,cC,FA,db]
theorem Zn {low:List ak} {dI l:List ah} {buf:List a6} (ar:ck bx low) (ag: ∀m∈buf,fM m) (aQ: ∀k,cG dI k=true↔jd buf (hI l) k):
  (fu (low.filter (dj dI)) buf).filter (dj l)=(fu low buf).filter (dj l):=by
 have pr:ck bx (low.filter (dj dI)):=List.Pairwise.filter _ ar;refine Ef (List.Pairwise.filter _ (yl pr buf)) (List.Pairwise.filter _ (yl ar buf)) (fun x=> ?_);rw[List.mem_filter,List.mem_filter];constructor
 ·rintro ⟨aa,ad⟩;refine ⟨(Zu pr ar ag x (fun k st av y bf=> ?_)).1 aa,ad⟩;rw[List.mem_filter];refine ⟨fun h=>h.1,fun h=>⟨h,?_⟩⟩;show cG dI y.1=true;rw[bf];exact (aQ k).2 ⟨x.1,st,ad,av⟩
 ·rintro ⟨aa,ad⟩;refine ⟨(Zu pr ar ag x (fun k st av y bf=> ?_)).2 aa,ad⟩;rw[List.mem_filter];refine ⟨fun h=>h.1,fun h=>⟨h,?_⟩⟩;show cG dI y.1=true;rw[bf];exact (aQ k).2 ⟨x.1,st,ad,av⟩
def u3 (p:bO) (ns:List bs) (b x:Nat):Prop:= ∀i n,i<b->ns[i]? =some n->kh (p,(i:Int),())=some (if i=x then (iJ,112,()) else (n,0,()))
def m6 (ns:List bs) (i:Nat):List a6:=(List.getD ns i iJ).2.2.2.2.1
def yT (ns:List bs) (i j:Nat):Nat:=(List.getD (List.getD ns i iJ).2.2.1 j 0).toNat
def sG (ns:List bs) (x:Nat):List (List af)->ah->Nat->(af->Prop)->Prop
 |[],_,i,_=>i=x
 |P::pv,s,i,L=>i=x\/ ∃j,j<(partsOf s (cl P s)).length/\qq (jd (m6 ns i) L) (List.getD (partsOf s (cl P s)) j cS)/\sG ns x pv (List.getD (partsOf s (cl P s)) j cS) (yT ns i j) (jd (m6 ns i) L)
theorem sc {ns:List bs} {i:Nat} {p:List ak} {piv:List af} {ks:List Nat} {sums:List dX} {buf:List a6} (h:ns[i]? =some (p,piv,dL ks,sums,buf,())) {j:Nat} (ay:j<ks.length):yT ns i j=ks.getD j 0:=by
 unfold yT;rw[oF h];show (List.getD (dL ks) j 0).toNat=_;rw[tQ ay,cq ay];rfl
theorem Lw {ns:List bs} {i:Nat} {n:bs} (h:ns[i]? =some n):m6 ns i=n.2.2.2.2.1:=by
 unfold m6;rw[oF h]
theorem ZM (ns:List bs) (pv:List (List af)) (ks:List Nat) (j:Nat) (dI:List ah):(((ks.take j).flatMap fun k=>cont ns pv k).filter (dj dI)).Sublist (low ns pv ks):=by
 refine List.Sublist.trans List.filter_sublist ?_;unfold low;have:ks=ks.take j++ks.drop j:=(List.take_append_drop j ks).symm
 conv=>rhs;rw[this]
 rw[List.flatMap_append];exact List.sublist_append_left _ _
theorem KE {d:Nat} (h:d<=1):clen d<=192032:=by
 rcases Nat.le_one_iff_eq_zero_or_eq_one.1 h with rfl |rfl
 ·decide
 ·decide
structure k8 (ns:List bs) (t:List ak) (pv:List (List af)) (s:ah) (i:Nat):Prop where
 tree:gz ns t pv s i
 five: ∀q∈pv,q.length<=5
 srt: ∀P∈pv,P.Pairwise fun a b=>Op.bytesLess a b=true
 gx:pc pv s=true
 gs:qR pv s=true
structure lL (t:List ak):Prop where
 srt:ck bx t
 len:t.length<=1000
 key: ∀p∈t,p.1.length<=100
theorem k8.cont {ns:List bs} {t:List ak} {pv:List (List af)} {s:ah} {i:Nat} (aU:lL t) (h:k8 ns t pv s i):Eg s pv.length (D.cont ns pv i):=
 gz.cont_ok aU.srt aU.len aU.key h.five h.srt h.gx h.tree
structure rZ (ns:List bs) (t:List ak) (P:List af) (pv:List (List af)) (s:ah) (N:bs) (ks:List Nat):Prop where
 kids:N.2.2.1=dL ks
 piv:N.2.1=cl P s
 parts:(partsOf s (cl P s)).length=ks.length
 one:1<=ks.length
 six:ks.length<=6
 span:pW (s,N.2.1,())=some (partsOf s (cl P s),())
 buf: ∀m∈N.2.2.2.2.1,gW m
 few:N.2.2.2.2.1.length<=13
 good: ∀j,j<ks.length->k8 ns t pv (List.getD (partsOf s (cl P s)) j cS) (ks.getD j 0)
 low:ck bx (low ns pv ks)/\nK s (D.low ns pv ks)/\(D.low ns pv ks).length<=6*clen pv.length/\ ∀p∈D.low ns pv ks,p.1.length<=100+20*pv.length
theorem k8.inner {ns:List bs} {t:List ak} {P:List af} {pv:List (List af)} {s:ah} {i:Nat} (aU:lL t) (h:k8 ns t (P::pv) s i):
  ∃ks sums buf,ns[i]? =some ([],cl P s,dL ks,sums,buf,())/\rZ ns t P pv s ([],cl P s,dL ks,sums,buf,()) ks/\buf.length<=5/\(∀k∈ks,k<i)/\ks.Nodup/\(∀m∈buf,kk (m,s,())=some (true,())):=by
 obtain ⟨ks,sums,buf,aa,ad,al,aE,aZ,bu,dq,h4⟩:=h.tree;obtain ⟨g1,g2⟩:=DI h.gx;obtain ⟨a1,k2⟩:=aoz h.gs;have iU:(cl P s).length<=5:=Nat.le_trans (yv P s) (h.five P List.mem_cons_self);have l0:(partsOf s (cl P s)).length=ks.length:=by rw[g1,ss,ad]
 have good: ∀j,j<ks.length->k8 ns t pv (List.getD (partsOf s (cl P s)) j cS) (ks.getD j 0):=by
  intro j ay;have fR:j<(partsOf s (cl P s)).length:=by omega
  refine ⟨(h4 j ay).1,fun q aN=>h.five q (List.mem_cons_of_mem _ aN),fun q aN=>h.srt q (List.mem_cons_of_mem _ aN),?_,?_⟩
  ·rw[cq fR];exact (g2 _ (List.getElem_mem fR)).2
  ·rw[cq fR];exact k2 _ (List.getElem_mem fR)
 refine ⟨ks,sums,buf,aa,⟨rfl,rfl,l0,by omega,by omega,a1,fun m hm=>(dq m hm).1,by show buf.length<=13;omega,good,?_⟩,bu,aZ,aE,fun m hm=>(dq m hm).2⟩;exact aaT l0.symm (by omega) (by rw[g1];exact LZ _ _ _ LP (DR (h.srt P List.mem_cons_self) s)) (fun q aN=>(g2 q aN).1) (fun j ay=>(good j ay).cont aU)
theorem rZ.contents {ns:List bs} {t:List ak} {P:List af} {pv:List (List af)} {s:ah} {N:bs} {ks:List Nat} (aU:lL t) (ax:pv.length<=1) (h:rZ ns t P pv s N ks):
  ∀j,j<ks.length->nK (List.getD (partsOf s (cl P s)) j cS) (D.cont ns pv (ks.getD j 0))/\(D.cont ns pv (ks.getD j 0)).length<=200000:=by
 intro j ay;have:=(h.good j ay).cont aU;have ad:=KE ax;have al:=this.len;exact ⟨this.sp,by omega⟩
theorem rZ.all {ns:List bs} {t:List ak} {P:List af} {pv:List (List af)} {s:ah} {N:bs} {ks:List Nat} (ax:pv.length<=1) (h:rZ ns t P pv s N ks) (j:Nat) (dI:List ah):
  uJ (((ks.take j).flatMap fun k=>D.cont ns pv k).filter (dj dI),N.2.2.2.2.1,())=some (fu (((ks.take j).flatMap fun k=>D.cont ns pv k).filter (dj dI)) N.2.2.2.2.1,())/\(fu (((ks.take j).flatMap fun k=>D.cont ns pv k).filter (dj dI)) N.2.2.2.2.1).length<100000000000:=by
 obtain ⟨de,cP,nB,pG⟩:=h.low;have pt:=ZM ns pv ks j dI;have aB:=KE ax;have ar:ck bx (((ks.take j).flatMap fun k=>D.cont ns pv k).filter (dj dI)):=List.Pairwise.sublist pt de;have ao:=pt.length_le;have ag: ∀m∈N.2.2.2.2.1,fM m:=fun m hm=>(h.buf m hm).ok
 have av: ∀p∈((ks.take j).flatMap fun k=>D.cont ns pv k).filter (dj dI),p.1.length<=140:=fun p aP=>by
  have:=pG p (pt.subset aP);omega
 refine ⟨agL ar ag (by omega) h.few (B:=140) (by omega) (by omega) av,?_⟩;have:=(Lc ar ag (by omega) h.few (B:=140) (by omega) (by omega) av N.2.2.2.2.1.length (Nat.le_refl _)).2.1;rw[List.take_length]at this;exact this
theorem YU {ns:List bs} {t:List ak} (aU:lL t) {p:bO} {b x:Nat} (aP:u3 p ns b x): ∀(pv:List (List af)) (s:ah) (i:Nat),pv.length<=2->k8 ns t pv s i->i<b->
  ∀(n B M:Nat),pv.length<=n->B+20*pv.length<=4000->200<=B->M*1024^pv.length<=100000000000->aan (o7 n) p i s (D.cont ns pv i) (sG ns x pv s i) B M
 |[],s,i,ax,bH,gY=>by
  intro n B M aQ abr iS ng l e out ao cM he an;have aa:ns[i]? =some (inS s t,[],[],[],[],()):=bH.tree;have bo:=aP i _ gY aa;have aB:D.cont ns [] i=inS s t:=by
   show (List.getD ns i iJ).1=_;rw[oF aa]
  by_cases aw:i=x
  ·rw[if_pos aw]at bo;refine ⟨112,?_,.inr rfl,fun _=>by decide,fun _=>⟨fun _=>aw,fun _=>by decide⟩⟩;have ai:(decide ((112:Int)=0))=false:=rfl;rw[if_neg (by decide),List.append_nil];simp only[qD,bo,ai,dm,az]
  ·rw[if_neg aw]at bo;refine ⟨e,?_,he,id,fun h=>⟨fun cb=>absurd h cb,fun cb=>absurd cb aw⟩⟩;have hlen:=ql s t;have Ar:=aU.len;have abx:M<=100000000000:=by simpa using ng
   have aq:=Z7 (o7 n) (i:Int) s l p (inS s t) out e (by omega) (by omega) (by omega);have bc:(decide ((((List.length ([]:List Int)):Int):Int)=(0:Int)))=true:=rfl;rw[aB];simp only[qD,bo,cL,du,aM,oH,bc,aq]
 |P::pv,s,i,ax,bH,gY=>by
  intro n B M aQ abr iS ng l e out ao cM he an;obtain ⟨ks,sums,buf,aa,dr,pf,bb,-⟩:=bH.inner aU;have bo:=aP i _ gY aa;have kI:pv.length<=1:=by simp at ax;omega
  have aB:=Ce (ns:=ns) P pv aa;obtain ⟨n,rfl⟩: ∃k,n=k+1:=⟨n-1,by simp at aQ;omega⟩;by_cases aw:i=x
  ·rw[if_pos aw]at bo;refine ⟨112,?_,.inr rfl,fun _=>by decide,fun _=>⟨fun _=>.inl aw,fun _=>by decide⟩⟩;have ai:(decide ((112:Int)=0))=false:=rfl;rw[if_neg (by decide),List.append_nil];simp only[qD,bo,ai,dm,az]
  ·rw[if_neg aw]at bo;simp only[List.length_cons]at abr aQ ng;have aE:4^buf.length<=1024:=by
    have:4^buf.length<=4^5:=Nat.pow_le_pow_right (by omega) pf;omega
   have aby:M*4^buf.length<=M*1024:=Nat.mul_le_mul_left _ aE;have arf:M*4^buf.length*1024^pv.length<=100000000000:=by
    refine Nat.le_trans (Nat.mul_le_mul_right _ aby) ?_;rw[Nat.mul_assoc,show 1024*1024^pv.length=1024^(pv.length+1) by rw[Nat.pow_succ,Nat.mul_comm]];exact ng
   have arh:M*4^buf.length<=100000000000:=by
    have:M*4^buf.length*1<=M*4^buf.length*1024^pv.length:=Nat.mul_le_mul_left _ (Nat.one_le_pow _ _ (by omega));omega
   have kids:=fun j (ay:j<ks.length)=>YU aU aP pv (List.getD (partsOf s (cl P s)) j cS) (ks.getD j 0) (by omega) (dr.good j ay) (by
    have:ks.getD j 0<i:=bb _ (by rw[cq ay];exact List.getElem_mem ay);omega) n (B+4*buf.length) (M*4^buf.length) (by omega) (by omega) (by omega) arf
   obtain ⟨dI,dx,j,f1,f2,f3,f4,f5,f6,f7⟩:=YN (o7 n) p _ s _ ks (fun k=>D.cont ns pv k) (fun k q L=>sG ns x pv q k L) B M dr.kids dr.parts dr.one dr.six dr.span dr.buf dr.few (by omega) iS arh (dr.contents aU kI) kids l e ao cM he;obtain ⟨g1,g2⟩:=dr.all kI j dI;have abx:l.length<=100000000000000000:=by
    have:M*1<=M*4^buf.length:=Nat.mul_le_mul_left _ (Nat.one_le_pow _ _ (by omega));omega
   have g3:=Z7 (o7 (n+1)) (i:Int) s l p _ out dx g2 (by omega) abx;refine ⟨dx,?_,f3,f6,fun h=> ?_⟩
   ·have bc:(decide ((((List.length (dL ks)):Int):Int)=(0:Int)))=false:=bg (by have:=dr.one;rw[iQ];omega);have zH:o7 (n+1) (([],cl P s,dL ks,sums,buf,()),s,l,p,e,())=_:=f1;have ar2:(if dx=0 then (D.cont ns (P::pv) i).filter (dj l) else [])=(if dx=0 then (fu (((ks.take j).flatMap fun k=>D.cont ns pv k).filter (dj dI)) buf).filter (dj l) else []):=by
     by_cases iz:dx=0
     ·rw[if_pos iz,if_pos iz,aB,f5 iz,List.take_length];exact (Zn (low:=low ns pv ks) dr.low.1 (fun m hm=>(dr.buf m hm).ok) f2).symm
     ·rw[if_neg iz,if_neg iz]
    rw[ar2];simp only[qD,bo,cL,du,aM,oH,bc,dm,az,zH,g1,g3]
   ·rw[f7 h];have ni:m6 ns i=buf:=Lw aa;constructor
    ·rintro ⟨j,a,b,c⟩;refine .inr ⟨j,by rw[dr.parts];exact a,?_,?_⟩
     ·rw[ni];exact b
     ·rw[ni,sc aa a];exact c
    ·rintro (cb |⟨j,a,b,c⟩)
     ·exact absurd cb aw
     ·rw[dr.parts]at a;rw[ni]at b c;rw[sc aa a]at c;exact ⟨j,a,b,c⟩
theorem Zd (id:Int) (s:ah) (l:List ah) (p:bO) (found:List ak) (ao:found.length<=1000000000000):
  vv ((found.length:Int),(0:Int),(0:Int),id,s,l,p,(0:Int),found,[],())=some (.inr ((0:Int),id,s,l,p,(0:Int),found,())):=by
 obtain ⟨z,aa,rfl⟩:=dY (b:=sP) (fun i (q:List ak)=>((found.length:Int),(i:Int),(0:Int),id,s,l,p,(0:Int),found,q,())) found.length (fun i q=>q=found.take i) (fun z=>z=.inr ((0:Int),id,s,l,p,(0:Int),found,())) (by omega)
  (fun i ab q aN=>by
   left;have ai:=gA (i:=i) (l:=found) (by omega);have b6:(decide ((0:Int)<=((i:Nat):Int)))=true:=am (by omega);have w:=fa (j:=i) (by omega);have room:(decide ((List.length q+List.length ([found[i]]:List (ak)))*40<=bm))=true:=am (by rw[dV,aN];simp;omega);refine ⟨q++[found[i]],by rw[aN,eV ab],?_⟩;simp only[sP,FN,F2,ai,b6,b7,az,bQ,cq ab,cL,du,dm,aM,room,w])
  (fun q aN=>by
   have ai:=hk found;rw[List.take_length]at aN;exact ⟨_,rfl,by simp only[sP,ai,aM,aN]⟩) [] (by simp)
 exact aa
theorem aox (id:Int) (s:ah) (l:List ah) (p:bO) (found:List ak) (e:Int) (he:e≠0):
  vv ((found.length:Int),(0:Int),(0:Int),id,s,l,p,e,found,[],())=some (.inl ((0:Int),id,s,l,p,e,[],()))\/
  vv ((found.length:Int),(0:Int),(0:Int),id,s,l,p,e,found,[],())=some (.inr ((0:Int),id,s,l,p,e,[],())):=by
 cases found with
 |nil=>
  right;exact lB (n:=1) (by rw[jV];omega) (by
   have ai:(decide ((0:Int)<((List.length ([]:List ak)):Int)))=false:=rfl;simp only[dR,sP,ai,aM])
 |cons x found=>
  left;exact lB (n:=1) (by rw[jV];omega) (by
   have ai:(decide ((0:Int)<((List.length (x::found)):Int)))=true:=am (by rw[List.length_cons];omega);have aq:(decide (e=0))=false:=bg he;simp only[dR,sP,FN,ai,aq,Int.le_refl,cL,b7,az,dm,du,aM])
def mz (s:ah) (p:ak):Bool:=bX s p.1
theorem aax (s:ah):dj [s]=mz s:=by
 funext p
 simp[dj,mz]
theorem agd (s:ah):hI [s]=fun k=>bX s k=true:=by
 funext k
 unfold hI;rw[jS]
theorem Zm (T:ct) (n:bs) (bo:kh (T.1,T.2.1,())=some (n,112,())) (s:ah):kP (T,s,())=some (112,[],()):=by
 have ai:(decide ((112:Int)=0))=false:=rfl;simp only[kP,pa,sT,bo,ai,dm,az,cL]
theorem aqk (T:ct) (N:bs) (av:N.2.2.1=[]) (bo:kh (T.1,T.2.1,())=some (N,0,())) (ao:N.1.length<1000000000000) (s:ah):kP (T,s,())=some (0,N.1.filter (mz s),()):=by
 have ai:=Lj N.1 [s] ao (by simp);rw[aax]at ai;have aK:(N.1.filter (mz s)).length<=N.1.length:=List.length_filter_le _ _;have aq:=Zd T.2.1 (([]:af),(([]:af),())) [s] T.1 (N.1.filter (mz s)) (by omega);have bc:(decide ((((List.length N.2.2.1):Int):Int)=(0:Int)))=true:=am (by rw[av];rfl);simp only[kP,pa,sT,bo,cL,du,aM,oH,bc,ai,aq,az]
def ahQ (ns:List bs) (x:Nat) (P:List af) (pv:List (List af)) (ks:List Nat) (buf:List a6) (L:af->Prop):Prop:=
 ∃j,j<ks.length/\qq (jd buf L) (List.getD (partsOf cS (cl P cS)) j cS)/\sG ns x pv (List.getD (partsOf cS (cl P cS)) j cS) (ks.getD j 0) (jd buf L)
theorem aoM {ns:List bs} {t:List ak} (aU:lL t) {b x:Nat} {P:List af} {pv:List (List af)} {N:bs} {ks:List Nat} (ax:pv.length<=1) (T:ct) (aP:u3 T.1 ns b x) (dr:rZ ns t P pv cS N ks) (ab1: ∀k∈ks,k<b)
  (bo:kh (T.1,T.2.1,())=some (N,0,())) (s:ah) (ar:s.1.length<=200/\s.2.1.length<=200):
  ∃dx,kP (T,s,())=some (dx,(if dx=0 then (fu (low ns pv ks) N.2.2.2.2.1).filter (mz s) else []),())/\qp dx/\(dx≠0↔ahQ ns x P pv ks N.2.2.2.2.1 (fun k=>bX s k=true)):=by
 have bA:jB=999999999999999999999999+1:=rfl;have aE:4^N.2.2.2.2.1.length<=67108864:=by
  have:4^N.2.2.2.2.1.length<=4^13:=Nat.pow_le_pow_right (by omega) dr.few;omega
 have ng:1*4^N.2.2.2.2.1.length*1024^pv.length<=100000000000:=by
  have aZ:1024^pv.length<=1024^1:=Nat.pow_le_pow_right (by omega) ax;have:=Nat.mul_le_mul (show 1*4^N.2.2.2.2.1.length<=67108864 by omega) aZ;omega
 have awm:=dr.few;have kids:=fun j (ay:j<ks.length)=>YU aU aP pv (List.getD (partsOf cS (cl P cS)) j cS) (ks.getD j 0) (by omega) (dr.good j ay) (by
  rw[cq ay];exact ab1 _ (List.getElem_mem ay)) 999999999999999999999999 (200+4*N.2.2.2.2.1.length) (1*4^N.2.2.2.2.1.length) (by omega) (by omega) (by omega) ng
 obtain ⟨dI,dx,j,f1,f2,f3,f4,f5,f6,f7⟩:=YN (o7 999999999999999999999999) T.1 N cS _ ks (fun k=>D.cont ns pv k) (fun k q L=>sG ns x pv q k L) 200 1 dr.kids dr.parts dr.one dr.six dr.span dr.buf dr.few (by omega) (by omega) (by omega) (dr.contents aU ax) kids [s] 0 (by simp) (fun y bf=>by
  obtain rfl:=List.mem_singleton.1 bf;exact ar) (.inl rfl)
 obtain ⟨g1,g2⟩:=dr.all ax j dI;obtain ⟨F,e7⟩: ∃F,fu (((ks.take j).flatMap fun k=>D.cont ns pv k).filter (dj dI)) N.2.2.2.2.1=F:=⟨_,rfl⟩;rw[e7]at g1 g2;have ai:=Lj F [s] (by omega) (by simp);have ln:(F.filter (dj [s])).length<=F.length:=List.length_filter_le _ _;have bc:(decide ((((List.length N.2.2.1):Int):Int)=(0:Int)))=false:=bg (by have:=dr.one;rw[dr.kids,iQ];omega);have zH:Gf (N,(([]:af),(([]:af),())),[s],T.1,(0:Int),())=some (((ks.take j).flatMap fun k=>D.cont ns pv k).filter (dj dI),T.1,dx,()):=by
  unfold Gf;rw[bA];exact f1
 refine ⟨dx,?_,f3,?_⟩
 ·by_cases iz:dx=0
  ·have ay:=f5 iz;have asx:=Zn (low:=low ns pv ks) (l:=[s]) dr.low.1 (fun m hm=>(dr.buf m hm).ok) f2;have aq6:F.filter (dj [s])=(fu (low ns pv ks) N.2.2.2.2.1).filter (mz s):=by
    rw[<-e7,ay,List.take_length,<-aax];exact asx
   have aq:=Zd T.2.1 (([]:af),(([]:af),())) [s] T.1 (F.filter (dj [s])) (by omega);rw[if_pos iz,<-aq6];subst iz;simp only[kP,pa,sT,bo,cL,du,aM,oH,bc,dm,az,zH,g1,ai,aq]
  ·have d0:decide (dx=0)=false:=bg iz;rw[if_neg iz];rcases aox T.2.1 (([]:af),(([]:af),())) [s] T.1 (F.filter (dj [s])) dx iz with aq |aq
   ·simp only[kP,pa,sT,bo,cL,du,aM,oH,bc,dm,az,zH,g1,ai,aq,d0]
   ·simp only[kP,pa,sT,bo,cL,du,aM,oH,bc,dm,az,zH,g1,ai,aq,d0]
 ·rw[f7 rfl,agd];exact Iff.rfl
def m9 (ns:List bs) (x:Nat):List (List af)->Nat->af->Prop
 |[],i,_=>i=x
 |_::pv,i,k=>i=x\/ ∃k' st,eC (m6 ns i).reverse k=.old k' st/\m9 ns x pv (yT ns i (hs k' (List.getD ns i iJ).2.1)) k'
theorem DE (k:af): ∀m:List af,hs k m<=m.length
 |[]=>Nat.le_refl _
 |p::m=>by
  unfold hs;have:=DE k m;split
  ·omega
  ·rw[List.length_cons];omega
theorem apX {ns:List bs} {t:List ak} (aU:lL t) {P:List af} {pv:List (List af)} {s:ah} {N:bs} {ks:List Nat} (dr:rZ ns t P pv s N ks) (jk:P.Pairwise fun a b=>Op.bytesLess a b=true) (aw:partsOf s (cl P s)=nf s.2.1 s.1 (cl P s)) (k:af) {p:ak} {b:Bool}
  (h:jb (D.cont ns pv (ks.getD (hs k (cl P s)) 0)) k p b):jb (low ns pv ks) k p b:=by
 have iU:ks.length=(cl P s).length+1:=by rw[<-dr.parts,aw,ss]
 have aB:=DE k (cl P s);have kb:hs k (cl P s)<ks.length:=by omega
 constructor
 ·intro ag;obtain ⟨aa,ad⟩:=h.1 ag;refine ⟨?_,ad⟩;rw[cq kb]at aa;exact List.mem_flatMap.2 ⟨_,List.getElem_mem kb,aa⟩
 ·intro ag;obtain ⟨aa,ad⟩:=h.2 ag;refine ⟨aa,fun q aN e=> ?_⟩;obtain ⟨kid,av,aN⟩:=List.mem_flatMap.1 aN;obtain ⟨j,ay,rfl⟩:=List.mem_iff_getElem.1 av;have abI:=((dr.good j ay).cont aU).sp;rw[cq ay]at abI;have ds:=abI q aN;rw[e,aw]at ds;have:=aaL s.2.1 k (cl P s) s.1 j LP (DR jk s) (by omega) ds;refine ad q ?_ e;rw[<-this,cq ay];exact aN
theorem ZF {ns:List bs} {t:List ak} (aU:lL t): ∀(pv:List (List af)) (s:ah) (i:Nat) (k:af),pv.length<=2->k8 ns t pv s i->k.length+100*pv.length<=1000->
  ∃(fs:List mN) (p:ak) (b:Bool) (n:Nat),1<=n/\n<=pv.length+1/\fs.length<=pv.length/\
   (∀(C:List ak) (bk:af) (gs:List mN),xE C bk gs k (D.cont ns pv i)-> ∃h7 hB,xE C bk (fs++gs) h7 hB/\jb hB h7 p b)/\
   ∀(T:ct) (lQ x:Nat),u3 T.1 ns lQ x->i<lQ-> ∀(gs:List mN) (j:Nat),j+pv.length<=1000->
    (¬m9 ns x pv i k->dR kC (pv.length+1) (k,(i:Int),gs,T,[],[],(0:Int),false,(j:Int),())=some (.inl ((0:Int),fs++gs,p,b,((j+n:Nat):Int),())))/\
    (m9 ns x pv i k-> ∃sU:List mN,sU.length<=pv.length/\dR kC (pv.length+1) (k,(i:Int),gs,T,[],[],(0:Int),false,(j:Int),())=some (.inl ((112:Int),sU++gs,mw,false,(0:Int),())))
 |[],s,i,k,ax,bH,av=>by
  have aa:ns[i]? =some (inS s t,[],[],[],[],()):=bH.tree;have aB:D.cont ns [] i=inS s t:=by
   show (List.getD ns i iJ).1=_;rw[oF aa]
  have Ow:ck bx (inS s t):=List.Pairwise.filter _ aU.srt;have hlen:=ql s t;have Ar:=aU.len;obtain ⟨p,b,ai,aq⟩:=agm (inS s t) k Ow (by omega);refine ⟨[],p,b,1,Nat.le_refl _,by simp,by simp,fun C bk gs dc=>⟨k,_,dc,by rw[aB];exact aq⟩,fun T lQ x aP gY gs j ay=>⟨fun aw=> ?_,fun aw=> ?_⟩⟩
  ·have bo:=aP i _ gY aa;rw[if_neg (show ¬i=x from aw)]at bo;have bc:(decide ((((List.length ([]:List Int)):Int):Int)=(0:Int)))=true:=rfl;have w:=fa (j:=j) (by omega);show dR kC 1 _=_;simp only[dR,kC,bo,cL,du,aM,oH,bc,az,ai,w,List.nil_append]
  ·have bo:=aP i _ gY aa;rw[if_pos (show i=x from aw)]at bo;have bc:(decide ((112:Int)=0))=false:=rfl;refine ⟨[],by simp,?_⟩;simp only[List.length_nil,dR,kC,bo,bc,dm,az,List.nil_append]
 |P::pv,s,i,k,ax,bH,av=>by
  obtain ⟨ks,sums,buf,aa,dr,pf,bb,-⟩:=bH.inner aU;obtain ⟨gx,-⟩:=DI bH.gx;have jk:=bH.srt P List.mem_cons_self;have kI:pv.length<=1:=by simp at ax;omega
  simp only[List.length_cons]at av;have aB:=Ce (ns:=ns) P pv aa;have zQ: ∀m∈buf,fM m:=fun m hm=>(dr.buf m hm).ok
  have ai:=agZ k buf zQ (by omega) (by omega);have ni:m6 ns i=buf:=Lw aa;have Oi:(List.getD ns i iJ).2.1=cl P s:=by rw[oF aa]
  have bc:(decide ((((List.length (dL ks)):Int):Int)=(0:Int)))=false:=bg (by have:=dr.one;rw[iQ];omega);have lx: ∀x:ak,x.1=k->(x∈D.cont ns (P::pv) i↔nS (eC buf.reverse k) (low ns pv ks) x):=by
   intro x aw;rw[aB,Ls dr.low.1 zQ x,aw]
  cases kG:eC buf.reverse k with
  |old k' st=>
   have fF:=aai (fun m hm=>zQ m (List.mem_reverse.1 hm)) kG;rw[List.length_reverse]at fF;have iU:ks.length=(cl P s).length+1:=by rw[<-dr.parts,gx,ss]
   have iy:=DE k' (cl P s);have vE:hs k' (cl P s)<ks.length:=by omega
   have s4:(cl P s).length<=1000:=by have:=dr.six;omega
   have bz:=ag0 k' (cl P s) (DR jk s) s4;obtain ⟨fs,p,b,n,cC,dk,n3,n4,kR⟩:=ZF aU pv (List.getD (partsOf s (cl P s)) (hs k' (cl P s)) cS) (ks.getD (hs k' (cl P s)) 0) k' (by omega) (dr.good _ vE) (by omega);rw[kG]at lx;have ab0:=sc aa vE;refine ⟨fs++[lD k (.old k' st)],p,b,n+1,by omega,by simp;omega,by simp;omega,fun C bk gs dc=> ?_,fun T lQ x aP gY gs j ay=> ?_⟩
   ·obtain ⟨h7,hB,a7,aY⟩:=n4 C bk (lD k (.old k' st)::gs) ⟨k,_,fun p b aK=>Me lx (fun k2 s2 h=>by
     injection h with al aE
     rw[<-al];exact apX aU dr jk gx k' aK),dc⟩
    exact ⟨h7,hB,by rw[List.append_assoc];exact a7,aY⟩
   ·have bo:=aP i _ gY aa;have w:=fa (j:=j) (by omega);have jQ:ks.getD (hs k' (cl P s)) 0<lQ:=by
     have:=bb _ (List.getElem_mem vE);rw[cq vE];omega
    obtain ⟨cZ,cr⟩:=kR T lQ x aP jQ (lD k (.old k' st)::gs) (j+1) (by simp only[List.length_cons]at ay;omega);have aY:(decide ((0:Int)<=((hs k' (cl P s):Nat):Int)))=true:=am (by omega);have c3:(decide (((hs k' (cl P s):Nat):Int)<((List.length (dL ks)):Int)))=true:=am (by rw[iQ];omega);have fe:List.getD (dL ks) (hs k' (cl P s)) 0=((ks.getD (hs k' (cl P s)) 0:Nat):Int):=by rw[tQ vE,cq vE]
    have nq:m9 ns x (P::pv) i k↔(i=x\/m9 ns x pv (ks.getD (hs k' (cl P s)) 0) k'):=by
     show (i=x\/ ∃k2 st,eC (m6 ns i).reverse k=.old k2 st/\m9 ns x pv (yT ns i (hs k2 (List.getD ns i iJ).2.1)) k2)↔_;rw[ni,Oi];constructor
     ·rintro (h |⟨k2,s2,al,aE⟩)
      ·exact .inl h
      ·rw[kG]at al;injection al with aZ bu
       subst aZ;rw[ab0]at aE;exact .inr aE
     ·rintro (h |h)
      ·exact .inl h
      ·exact .inr ⟨k',st,kG,by rw[ab0];exact h⟩
    by_cases Ft:i=x
    ·rw[if_pos Ft]at bo;have dh:(decide ((112:Int)=0))=false:=rfl;refine ⟨fun h=>absurd (nq.2 (.inl Ft)) h,fun _=>⟨[],by simp,?_⟩⟩;simp only[List.length_cons,dR,kC,bo,dh,dm,az,List.nil_append]
    ·rw[if_neg Ft]at bo;have step:dR kC ((P::pv).length+1) (k,(i:Int),gs,T,[],[],(0:Int),false,(j:Int),())=dR kC (pv.length+1) (k',((ks.getD (hs k' (cl P s)) 0:Nat):Int),lD k (.old k' st)::gs,T,[],[],(0:Int),false,((j+1:Nat):Int),()):=by
      rw[List.length_cons]
      conv=>lhs;unfold dR
      rw[kG]at ai;simp only[kC,bo,cL,du,aM,oH,bc,ai,lD,bz,aY,c3,b7,az,bQ,fe,w]
     rw[step];refine ⟨fun h=> ?_,fun h=> ?_⟩
     ·rw[cZ (fun cb=>h (nq.2 (.inr cb)))];rw[List.append_assoc,show j+1+n=j+(n+1) by omega];rfl
     ·obtain ⟨sU,g1,g2⟩:=cr ((nq.1 h).resolve_left Ft);refine ⟨sU++[lD k (.old k' st)],by simp;omega,?_⟩;rw[g2,List.append_assoc];rfl
  |gen v n=>
   rw[kG]at lx;refine ⟨[lD k (.gen v n)],mw,false,1,by omega,by omega,by simp,fun C bk gs dc=>⟨[],[],⟨k,_,fun p b _=>Me lx (fun k2 s2 h=>by cases h),dc⟩,fun h=>(by cases h),fun _=>⟨rfl,fun q aN=>(by cases aN)⟩⟩,fun T lQ x aP gY gs j ay=> ?_⟩;have bo:=aP i _ gY aa;have w:=fa (j:=j) (by omega);have nq:m9 ns x (P::pv) i k↔i=x:=by
    show (i=x\/ ∃k2 st,eC (m6 ns i).reverse k=.old k2 st/\_)↔_;rw[ni,kG];exact ⟨fun h=>h.elim id (fun ⟨_,_,h,_⟩=>by cases h),.inl⟩
   rw[kG]at ai;refine ⟨fun h=> ?_,fun h=>⟨[],by simp,?_⟩⟩
   ·rw[if_neg (fun cb=>h (nq.2 cb))]at bo;simp only[List.length_cons,dR,kC,bo,cL,du,aM,oH,bc,ai,lD,az,w];rfl
   ·rw[if_pos (nq.1 h)]at bo;have dh:(decide ((112:Int)=0))=false:=rfl;simp only[List.length_cons,dR,kC,bo,dh,dm,az,List.nil_append]
  |gone=>
   rw[kG]at lx;refine ⟨[lD k .gone],mw,false,1,by omega,by omega,by simp,fun C bk gs dc=>⟨[],[],⟨k,_,fun p b _=>Me lx (fun k2 s2 h=>by cases h),dc⟩,fun h=>(by cases h),fun _=>⟨rfl,fun q aN=>(by cases aN)⟩⟩,fun T lQ x aP gY gs j ay=> ?_⟩;have bo:=aP i _ gY aa;have w:=fa (j:=j) (by omega);have nq:m9 ns x (P::pv) i k↔i=x:=by
    show (i=x\/ ∃k2 st,eC (m6 ns i).reverse k=.old k2 st/\_)↔_;rw[ni,kG];exact ⟨fun h=>h.elim id (fun ⟨_,_,h,_⟩=>by cases h),.inl⟩
   rw[kG]at ai;refine ⟨fun h=> ?_,fun h=>⟨[],by simp,?_⟩⟩
   ·rw[if_neg (fun cb=>h (nq.2 cb))]at bo;simp only[List.length_cons,dR,kC,bo,cL,du,aM,oH,bc,ai,lD,az,w];rfl
   ·rw[if_pos (nq.1 h)]at bo;have dh:(decide ((112:Int)=0))=false:=rfl;simp only[List.length_cons,dR,kC,bo,dh,dm,az,List.nil_append]
theorem agj (e:Int) (fs:List mN) (p:ak) (b:Bool) (ao:fs.length<=1000):BZ (e,fs,p,b,(0:Int),())=some (.inl (e,p,b,(0:Int),())):=by
 obtain ⟨r,aa,rfl⟩:=yh (b:=tL) (fun s=>s.2.1.length) (fun s=> ∃fs,s=(e,fs,p,b,(0:Int),())) (fun r=>r=.inl (e,p,b,(0:Int),()))
  (fun s ab=>by
   obtain ⟨fs,rfl⟩:=ab;cases fs with
   |nil=>exact .inr ⟨_,rfl,rfl⟩
   |cons x fs=>
    left;have ai:decide ((0:Int)>(0:Int))=false:=rfl;simp only[tL,List.isEmpty_cons,aM,List.head?_cons,List.tail_cons,ai];exact ⟨_,rfl,⟨fs,rfl⟩,by simp⟩) (e,fs,p,b,(0:Int),()) ⟨fs,rfl⟩ (by show fs.length<_;omega)
 exact aa
theorem agW {ns:List bs} {t:List ak} (aU:lL t) (pv:List (List af)) (s:ah) (i:Nat) (k:af) (ax:pv.length<=2) (bH:k8 ns t pv s i) (av:k.length<=500):
  ∃(q:ak) (c:Bool) (n:Nat),1<=n/\n<=pv.length+1/\jb (D.cont ns pv i) k q c/\
   ∀(T:ct) (lQ x:Nat),u3 T.1 ns lQ x->i<lQ->T.2.1=(i:Int)->
    (¬m9 ns x pv i k->oA (T,k,())=some (q,c,(n:Int),(0:Int),()))/\(m9 ns x pv i k->oA (T,k,())=some (mw,false,(0:Int),(112:Int),())):=by
 obtain ⟨fs,p,b,n,cC,dk,n3,n4,kR⟩:=ZF aU pv s i k ax bH (by omega);obtain ⟨h7,hB,a7,aY⟩:=n4 (D.cont ns pv i) k [] ⟨rfl,rfl⟩;rw[List.append_nil]at a7;obtain ⟨q,c,ai,aq⟩:=agp (D.cont ns pv i) k (n:Int) (by omega) fs h7 hB p b (by omega) a7 aY;refine ⟨q,c,n,cC,dk,aq,fun T lQ x aP gY aA=> ?_⟩;obtain ⟨cZ,cr⟩:=kR T lQ x aP gY [] 0 (by omega);rw[List.append_nil]at cZ;constructor
 ·intro h;have aa:=cZ h;have ad:CW (k,(i:Int),[],T,[],[],(0:Int),false,(0:Int),())=some (.inl ((0:Int),fs,p,b,(n:Int),())):=by
   refine lB (n:=pv.length+1) (by rw[jV];omega) ?_;have:((0+n:Nat):Int)=(n:Int):=by omega
   rw[this]at aa;exact aa
  simp only[oA,aA,ad,ai]
 ·intro h;obtain ⟨sU,g1,g2⟩:=cr h;rw[List.append_nil]at g2;have ad:CW (k,(i:Int),[],T,[],[],(0:Int),false,(0:Int),())=some (.inl ((112:Int),sU,mw,false,(0:Int),())):=lB (n:=pv.length+1) (by rw[jV];omega) g2;simp only[oA,aA,ad,agj 112 sU mw false (by omega)]
theorem af2 (x:eh) (h:y7 x):lL (nU x):=by
 have asC: ∀y∈x.1.take 40,tM y:=fun y bf=>h.t.1 y (List.mem_of_mem_take bf)
 have hlen:=Lh (x.1.take 40);rw[List.length_take]at hlen;refine ⟨aqq _,?_,fun p aP=> ?_⟩
 ·unfold nU;omega
 ·obtain ⟨y,bf,rfl⟩:=Zr _ p aP;have aa:=asC y bf;have:=(YB y.1 aa.1.1 aa.1.2).2.1;show (qw y.1).length<=100;omega
theorem aqt (x:eh) {ns:List bs} {root:Nat} (h:gz ns (nU x) (kv x) cS root):k8 ns (nU x) (kv x) cS root:=by
 have hm:=Mj x;have ar:=Lt _ hm;exact ⟨h,ar.2,apJ _ hm,ap4 _ hm,ag4 _ hm⟩
theorem ag2 (x:eh):(kv x).length<=2:=(Lt _ (Mj x)).1
theorem aaM (ns:List bs):u3 (mk ns (fun _=>1),()) ns ns.length ns.length:=by
 intro i n ab aQ;obtain ⟨aa,ad⟩:=List.getElem?_eq_some_iff.1 aQ;rw[if_neg (by omega),anY ab,ad]
theorem aaw {ns:List bs} {t:List ak} (aU:lL t) {x:Nat}: ∀{pv:List (List af)} {s:ah} {i:Nat} {L:af->Prop},k8 ns t pv s i->sG ns x pv s i L->x<=i
 |[],s,i,L,_,h=>by
  have h:i=x:=h;omega
 |P::pv,s,i,L,bH,h=>by
  obtain ⟨ks,sums,buf,aa,dr,pf,bb,-⟩:=bH.inner aU;rcases h with h |⟨j,a,b,c⟩
  ·omega
  ·rw[dr.parts]at a;rw[sc aa a]at c;have ad:=aaw aU (dr.good j a) c;have:ks.getD j 0<i:=bb _ (by rw[cq a];exact List.getElem_mem a);omega
theorem aav {ns:List bs} {t:List ak} (aU:lL t) {x:Nat}: ∀{pv:List (List af)} {s:ah} {i:Nat} {k:af},k8 ns t pv s i->m9 ns x pv i k->x<=i
 |[],s,i,k,_,h=>by
  have h:i=x:=h;omega
 |P::pv,s,i,k,bH,h=>by
  obtain ⟨ks,sums,buf,aa,dr,pf,bb,-⟩:=bH.inner aU;obtain ⟨gx,-⟩:=DI bH.gx;have iU:ks.length=(cl P s).length+1:=by rw[<-dr.parts,gx,ss]
  rcases h with h |⟨k',st,a,b⟩
  ·omega
  ·have Oi:(List.getD ns i iJ).2.1=cl P s:=by rw[oF aa]
   have aB:=DE k' (cl P s);have ay:hs k' (cl P s)<ks.length:=by omega
   rw[Oi,sc aa ay]at b;have ad:=aav aU (dr.good _ ay) b;have:ks.getD (hs k' (cl P s)) 0<i:=bb _ (by rw[cq ay];exact List.getElem_mem ay);omega
structure kr (ns:List bs) (t:List ak) (pv:List (List af)) (root:Nat):Prop where
 tab:lL t
 good:k8 ns t pv cS root
 two:pv.length<=2
 lt:root<ns.length
theorem kr.made (x:eh) (h:y7 x) {ns:List bs} {root:Nat} (aU:gz ns (nU x) (kv x) cS root):kr ns (nU x) (kv x) root:=
 ⟨af2 x h,aqt x aU,ag2 x,aU.lt⟩
theorem kr.content {ns:List bs} {t:List ak} {pv:List (List af)} {root:Nat} (h:kr ns t pv root):Eg cS pv.length (cont ns pv root):=h.good.cont h.tab
theorem ahT {d:Nat} (h:d<=2):clen d<=36870176:=by
 have:d=0\/d=1\/d=2:=by omega
 rcases this with rfl |rfl |rfl<;>decide
theorem kr.clen {ns:List bs} {t:List ak} {pv:List (List af)} {root:Nat} (h:kr ns t pv root):(cont ns pv root).length<=36870176:=Nat.le_trans h.content.len (ahT h.two)
theorem kr.got {ns:List bs} {t:List ak} {pv:List (List af)} {root:Nat} (h:kr ns t pv root) (sh:fc) (k:af) (av:k.length<=500):
  ∃(q:ak) (c:Bool) (n:Nat),oA (((D.mk ns (fun _=>1),()),((root:Int),(sh,()))),k,())=some (q,c,(n:Int),(0:Int),())/\jb (cont ns pv root) k q c/\1<=n:=by
 obtain ⟨q,c,n,cC,dk,n3,n4⟩:=agW h.tab pv cS root k h.two h.good av;exact ⟨q,c,n,(n4 _ ns.length ns.length (aaM ns) h.lt rfl).1 (fun bC=>by have:=aav h.tab h.good bC;have:=h.lt;omega),n3,cC⟩
theorem kr.scanX {ns:List bs} {t:List ak} {pv:List (List af)} {root:Nat} (h:kr ns t pv root) (T:ct) {b x:Nat} (aP:u3 T.1 ns b x) (ag:root<b) (aA:T.2.1=(root:Int)) (s:ah) (ar:s.1.length<=200/\s.2.1.length<=200):
  ∃e,kP (T,s,())=some (e,(if e=0 then (cont ns pv root).filter (mz s) else []),())/\qp e/\(e≠0↔sG ns x pv cS root (fun k=>bX s k=true)):=by
 match pv,h with
 |[],h=>
  have aa:ns[root]? =some (inS cS t,[],[],[],[],()):=h.good.tree;have bo:=aP root _ ag aa;rw[<-aA]at bo;have aB:cont ns [] root=inS cS t:=by
   show (List.getD ns root iJ).1=_;rw[oF aa]
  by_cases aw:root=x
  ·rw[if_pos aw]at bo;exact ⟨112,Zm T iJ bo s,.inr rfl,⟨fun _=>aw,fun _=>by decide⟩⟩
  ·rw[if_neg aw]at bo;have ao:=ql cS t;have gP:=h.tab.len;refine ⟨0,?_,.inl rfl,⟨fun cb=>absurd rfl cb,fun cb=>absurd cb aw⟩⟩;rw[if_pos rfl,aB];exact aqk T (inS cS t,[],[],[],[],()) rfl bo (by show (inS cS t).length<_;omega) s
 |P::pv,h=>
  obtain ⟨ks,sums,buf,aa,dr,pf,bb,-⟩:=h.good.inner h.tab;have bo:=aP root _ ag aa;rw[<-aA]at bo;have ax:pv.length<=1:=by have:=h.two;simp at this;omega
  by_cases aw:root=x
  ·rw[if_pos aw]at bo;exact ⟨112,Zm T iJ bo s,.inr rfl,⟨fun _=>.inl aw,fun _=>by decide⟩⟩
  ·rw[if_neg aw]at bo;obtain ⟨e,ai,aq,bc⟩:=aoM h.tab ax T aP dr (fun k av=>by have:=bb k av;omega) bo s ar;refine ⟨e,?_,aq,?_⟩
   ·rw[Ce P pv aa];exact ai
   ·rw[bc];have ni:m6 ns root=buf:=Lw aa;constructor
    ·rintro ⟨j,a,b,c⟩;refine .inr ⟨j,by rw[dr.parts];exact a,by rw[ni];exact b,by rw[ni,sc aa a];exact c⟩
    ·rintro (cb |⟨j,a,b,c⟩)
     ·exact absurd cb aw
     ·rw[dr.parts]at a;rw[ni]at b c;rw[sc aa a]at c;exact ⟨j,a,b,c⟩
theorem kr.scan {ns:List bs} {t:List ak} {pv:List (List af)} {root:Nat} (h:kr ns t pv root) (sh:fc) (s:ah) (ar:s.1.length<=200/\s.2.1.length<=200):
  kP (((D.mk ns (fun _=>1),()),((root:Int),(sh,()))),s,())=some (0,(cont ns pv root).filter (mz s),()):=by
 obtain ⟨e,ai,aq,bc⟩:=h.scanX ((D.mk ns (fun _=>1),()),((root:Int),(sh,()))) (aaM ns) h.lt rfl s ar;have:e=0:=by
  rcases Classical.em (e=0) with cb |cb
  ·exact cb
  ·have:=aaw h.tab h.good (bc.1 cb);have:=h.lt;omega
 subst this;rw[if_pos rfl]at ai;exact ai
theorem apY (l:List ak) (k:af) (ao:l.length<=1000000000000): ∃p b,x6 (l,k,())=some (p,b,())/\jb l k p b:=by
 obtain ⟨z,aa,ad⟩:=dY (b:=wP) (fun i (_:Unit)=>(l,k,(i:Int),([]:af),([]:af),(0:Int),())) l.length (fun i _=> ∀q∈l.take i,q.1≠k)
  (fun z=>(∃p,z=.inl (true,p,())/\p∈l/\p.1=k)\/(z=.inr mw/\ ∀q∈l,q.1≠k)) (by omega)
  (fun i ab _ aN=>by
   have ai:=gA (i:=i) (l:=l) (by omega);have b6:(decide ((0:Int)<=((i:Nat):Int)))=true:=am (by omega);have w:=fa (j:=i) (by omega);by_cases av:l[i].1=k
   ·right;refine ⟨_,.inl ⟨l[i],rfl,List.getElem_mem ab,av⟩,?_⟩;simp only[wP,ai,b6,b7,az,bQ,cq ab,av,cL]
   ·left;refine ⟨(),fun q lv=> ?_,?_⟩
    ·rw[eV ab]at lv;rcases List.mem_append.1 lv with h |h
     ·exact aN q h
     ·obtain rfl:=List.mem_singleton.1 h;exact av
    ·simp only[wP,ai,b6,b7,az,bQ,cq ab,av,decide_false,aM,w])
  (fun _ aN=>by
   have ai:=hk l;rw[List.take_length]at aN;exact ⟨_,.inr ⟨rfl,aN⟩,by simp only[wP,ai,aM]⟩) () (fun q aN=>by simp at aN)
 have db:acl (l,k,(0:Int),([]:af),([]:af),(0:Int),())=some z:=aa;rcases ad with ⟨p,rfl,al,aE⟩|⟨rfl,al⟩
 ·exact ⟨p,true,by simp only[x6,db],fun _=>⟨al,aE⟩,fun h=>by cases h⟩
 ·exact ⟨mw,false,by simp only[x6,db],fun h=>(by cases h),fun _=>⟨rfl,al⟩⟩
theorem aoL (l:List ak) (ao:l.length<=1000000000000):xk (l,l,())=some (true,()):=by
 obtain ⟨z,aa,rfl⟩:=dY (b:=Bu) (fun i (_:Unit)=>(l,l,(i:Int),())) l.length (fun i _=>True) (fun z=>z=.inr ()) (by omega)
  (fun i ab _ _=>by
   left;have ai:=gA (i:=i) (l:=l) (by omega);have b6:(decide ((0:Int)<=((i:Nat):Int)))=true:=am (by omega);have w:=fa (j:=i) (by omega);exact ⟨(),trivial,by simp only[Bu,ai,b6,b7,az,bQ,oB,du,aM,w]⟩)
  (fun _ _=>by
   have ai:=hk l;exact ⟨_,rfl,by simp only[Bu,ai,aM]⟩) () trivial
 have db:Jn (l,l,(0:Int),())=some (.inr ()):=aa;simp only[xk,cL,du,aM,db]
theorem aqv {m:a6} (hm:gW m): ∃W:List ah,h2 (m,())=some (W,())/\W.length<=2/\ ∀w∈W,w.1.length<=200/\w.2.1.length<=200:=by
 obtain ⟨-,R,W,-,-,-,hl,-,hw⟩:=ZN hm;refine ⟨W,hl,hw,?_⟩;have cF:=hm.ok;have he:=hm.ends;have key: ∀k∈iX,k.length<=200/\(k++[0]).length<=200:=fun k av=>by
  have:=(rT k av).2;simp;omega
 have pre: ∀p∈eD,(c2 p).1.length<=200/\(c2 p).2.1.length<=200:=fun p aP=>by
  obtain ⟨-,bU,da,-⟩:=sb aP;have:=p1 p aP;rw[bU];omega
 by_cases aa:m.1=1
 ·have d1:decide (m.1=1)=true:=am aa;have av:=cF.key (.inl aa);simp only[h2,jH,d1,az,(qm av).2]at hl;have:W=_:=(congrArg Prod.fst (Option.some.inj hl)).symm;intro w kf;rw[this]at kf;obtain rfl:=List.mem_singleton.1 kf;exact key _ av
 ·have d1:decide (m.1=1)=false:=bg aa;by_cases ad:m.1=2
  ·have d2:decide (m.1=2)=true:=am ad;have av:=cF.key (.inr ad);simp only[h2,jH,d1,d2,az,aM,(qm av).2]at hl;have:W=_:=(congrArg Prod.fst (Option.some.inj hl)).symm;intro w kf;rw[this]at kf;obtain rfl:=List.mem_singleton.1 kf;exact key _ av
  ·have d2:decide (m.1=2)=false:=bg ad;by_cases aE:m.1=4
   ·have d4:decide (m.1=4)=true:=am aE;have an:=cF.mv aa ad (by omega) (by omega);obtain ⟨-,gH,-⟩:=jr _ (iR _ an.from_);obtain ⟨-,aL,-⟩:=jr _ (iR _ an.to_);simp only[h2,jH,d1,d2,d4,az,aM,gH,aL]at hl;have:W=_:=(congrArg Prod.fst (Option.some.inj hl)).symm;intro w kf;rw[this]at kf;rcases List.mem_cons.1 kf with rfl |kf
    ·exact pre _ an.from_
    ·obtain rfl:=List.mem_singleton.1 kf;exact pre _ an.to_
   ·have d4:decide (m.1=4)=false:=bg aE;by_cases aZ:m.1=5
    ·have d5:decide (m.1=5)=true:=am aZ;have an:=cF.mv aa ad (by omega) (by omega);obtain ⟨-,aL,-⟩:=jr _ (iR _ an.to_);simp only[h2,jH,d1,d2,d4,d5,az,aM,aL]at hl;have:W=_:=(congrArg Prod.fst (Option.some.inj hl)).symm;intro w kf;rw[this]at kf;obtain rfl:=List.mem_singleton.1 kf;exact pre _ an.to_
    ·have d5:decide (m.1=5)=false:=bg aZ;simp only[h2,jH,d1,d2,d4,d5,aM]at hl;have:W=_:=(congrArg Prod.fst (Option.some.inj hl)).symm;intro w kf;rw[this]at kf;obtain rfl:=List.mem_singleton.1 kf;exact he
def DY:List af:=((tR ()).map (·.1)).getD []
def aaQ:Bool:=match tR () with
 |some (l,())=>decide (l.length=66)&&l.all fun k=>decide (k.length<=20)
 |none=>false
theorem anS:aaQ=true:=by decide+kernel
theorem apq:tR ()=some (DY,())/\DY.length=66/\ ∀k∈DY,k.length<=20:=by
 have h:=anS;unfold aaQ at h;unfold DY;cases e:tR () with
 |none=>rw[e]at h;cases h
 |some q=>
  obtain ⟨l,u⟩:=q;rw[e]at h;simp only[bB,dd,List.all_eq_true]at h;exact ⟨rfl,h.1,h.2⟩
theorem aga {t:List ak} {l:List a6} (ar:ck bx t) (h: ∀m∈l,fM m) (ao:t.length<=1200000) (aQ:l.length<=13) {B:Nat} (cM:100<=B) (iS:B<=900) (av: ∀p∈t,p.1.length<=B):
  Dv (t,l,())=some (fu t l,()):=by
 obtain ⟨z,aa,rfl⟩:=dY (b:=BA) (fun i (q:List ak)=>(q,l,(i:Int),())) l.length (fun i q=>q=fu t (l.take i)) (fun z=>z=.inl (fu t l,())) (by omega)
  (fun i ab q aN=>by
   left;have ai:=gA (i:=i) (l:=l) (by omega);have b6:(decide ((0:Int)<=((i:Nat):Int)))=true:=am (by omega);have w:=fa (j:=i) (by omega);obtain ⟨eo,a2,a3⟩:=Lc ar h ao aQ cM iS av i (by omega);rw[<-aN]at eo a2 a3;have aq:=(ZT q l[i] (h _ (List.getElem_mem ab)) eo a2 a3).2;refine ⟨hz q l[i],by rw[aN,eV ab,Lb],?_⟩;simp only[BA,ai,b6,b7,az,bQ,cq ab,aq,w])
  (fun q aN=>by
   have ai:=hk l;rw[List.take_length]at aN;exact ⟨_,rfl,by simp only[BA,ai,aM,aN]⟩) t rfl
 have db:JR (t,l,(0:Int),())=some (.inl (fu t l,())):=aa;simp only[Dv,db]
theorem YR {ns:List bs} {t:List ak} (aU:lL t): ∀(pv:List (List af)) (s:ah) (i:Nat),pv.length<=2->k8 ns t pv s i-> ∀n,pv.length+1<=n->
  wb n ((mk ns (fun _=>1),()),(i:Int),())=some (cont ns pv i,())
 |[],s,i,ax,bH,n,aQ=>by
  obtain ⟨n,rfl⟩: ∃k,n=k+1:=⟨n-1,by simp at aQ;omega⟩;have aa:ns[i]? =some (inS s t,[],[],[],[],()):=bH.tree;obtain ⟨bb,ad⟩:=List.getElem?_eq_some_iff.1 aa;have bo:=KJ (ns:=ns) (r:=fun _=>1) bb;rw[ad]at bo;have aB:cont ns [] i=inS s t:=by
   show (List.getD ns i iJ).1=_;rw[oF aa]
  have bc:(decide ((((List.length ([]:List Int)):Int):Int)=(0:Int)))=true:=rfl;rw[aB];show sW _ _=_;simp only[sW,bo,bc,az]
 |P::pv,s,i,ax,bH,n,aQ=>by
  obtain ⟨n,rfl⟩: ∃k,n=k+1:=⟨n-1,by simp at aQ;omega⟩;obtain ⟨ks,sums,buf,aa,dr,pf,bb,-⟩:=bH.inner aU;have kI:pv.length<=1:=by simp at ax;omega
  obtain ⟨oa,ad⟩:=List.getElem?_eq_some_iff.1 aa;have bo:=KJ (ns:=ns) (r:=fun _=>1) oa;rw[ad]at bo;have kids:=fun j (ay:j<ks.length)=>YR aU pv (List.getD (partsOf s (cl P s)) j cS) (ks.getD j 0) (by omega) (dr.good j ay) n (by simp at aQ;omega)
  have lU:=dr.contents aU kI;have iy:=KE kI;obtain ⟨de,cP,nB,pG⟩:=dr.low;obtain ⟨z,g1,rfl⟩:=dY (b:=wv (wb n)) (fun i (q:List ak)=>((i:Int),(mk ns (fun _=>1),()),(([],cl P s,dL ks,sums,buf,()):bs),q,())) ks.length (fun i q=>q=(ks.take i).flatMap fun k=>cont ns pv k) (fun z=>z=.inl ((([],cl P s,dL ks,sums,buf,()):bs),low ns pv ks,())) (by have:=dr.six;omega)
   (fun j ay q aN=>by
    left;have ai:(decide (((j:Nat):Int)<((List.length (dL ks)):Int)))=true:=am (by rw[iQ];omega);have b6:(decide ((0:Int)<=((j:Nat):Int)))=true:=am (by omega);have w:=fa (j:=j) (by have:=dr.six;omega);have aq:=kids j ay;rw[cq ay]at aq;have aB:=(lU j ay).2;rw[cq ay]at aB;have asz:q.length<=1200000:=by
     have:=(ZM ns pv ks j [cS]).length_le;have pt:((ks.take j).flatMap fun k=>cont ns pv k).length<=(low ns pv ks).length:=by
      unfold low;have:ks=ks.take j++ks.drop j:=(List.take_append_drop j ks).symm
      conv=>rhs;rw[this]
      rw[List.flatMap_append,List.length_append];omega
     rw[aN];omega
    have room:(decide ((List.length q+List.length (cont ns pv ks[j]))*40<=bm))=true:=am (by rw[dV];omega);refine ⟨q++cont ns pv ks[j],by rw[aN,eV ay,List.flatMap_append];simp,?_⟩;simp only[wv,ai,b6,b7,az,bQ,tQ ay,aq,room,w])
   (fun q aN=>by
    have ai:(decide (((ks.length:Nat):Int)<((List.length (dL ks)):Int)))=false:=bg (by rw[iQ];omega);rw[List.take_length]at aN;refine ⟨_,rfl,?_⟩;simp only[wv,ai,aM,aN];rfl) [] (by simp)
  have kD:GK (wb n) ((0:Int),(mk ns (fun _=>1),()),(([],cl P s,dL ks,sums,buf,()):bs),[],())=some (.inl ((([],cl P s,dL ks,sums,buf,()):bs),low ns pv ks,())):=g1;have bc:(decide ((((List.length (dL ks)):Int):Int)=(0:Int)))=false:=bg (by have:=dr.one;rw[iQ];omega);have bz:=aga de (fun m hm=>(dr.buf m hm).ok) (by omega) dr.few (B:=140) (by omega) (by omega) (fun p aP=>by have:=pG p aP;omega);rw[Ce P pv aa];show sW _ _=_;simp only[sW,bo,bc,aM,kD,bz]
theorem kr.all {ns:List bs} {t:List ak} {pv:List (List af)} {root:Nat} (h:kr ns t pv root) (sh:fc):Dw (((D.mk ns (fun _=>1),()),((root:Int),(sh,()))),())=some (cont ns pv root,()):=by
 have:=YR h.tab pv cS root h.two h.good jB (by have:=h.two;rw[jV];omega);have this:Jr ((D.mk ns (fun _=>1),()),(root:Int),())=some (cont ns pv root,()):=this;simp only[Dw,this]
theorem ag3 (y:mn) (bf:ow y): ∃m,rF (y,())=some (m,())/\gW m:=by
 obtain ⟨k,v,f,t,s,q0,-⟩:=Dm y bf.1;exact ⟨_,q0,y,bf,q0⟩
theorem ap7 (s:ah) (t:List ak):inS s t=t.filter (mz s):=rfl
theorem amC (x:eh) (y:mn) (w:Int) (aw:y7 x) (bf:ow y) (hw:0<=w/\w<256):wA (x,y,w,())=some (true,()):=by
 obtain ⟨ns,root,aa,ad,al,aE,aZ⟩:=af5 x aw;have b4:=kr.made x aw ad;obtain ⟨m,cZ,cr⟩:=ag3 y bf;obtain ⟨W,cV,c9,fy⟩:=aqv cr;obtain ⟨K,a1,k2,b8⟩: ∃K,tR ()=some (K,())/\K.length=66/\ ∀k∈K,k.length<=20:=⟨_,apq⟩;have eY:=b4.all (w3 x.2.2.1);have arU:=fun k av=>b4.got (w3 x.2.2.1) k av
 have asH:=fun s ar=>b4.scan (w3 x.2.2.1) s ar
 obtain ⟨T,NA⟩: ∃T:ct,((mk ns (fun _=>1),()),((root:Int),(w3 x.2.2.1,())))=T:=⟨_,rfl⟩;rw[NA]at eY aa;obtain ⟨C,dc⟩: ∃C,cont ns (kv x) root=C:=⟨_,rfl⟩;have iy:=b4.clen;have lU:=b4.content.srt;rw[dc]at eY iy lU;have b6:i64.wrap (Int.tmod w (3:Int))=((w.toNat%3:Nat):Int):=by
  rw[Int.tmod_eq_emod_of_nonneg hw.1,cU (by omega)];omega
 obtain ⟨r,bu,rfl⟩:=jT (b:=AN) (fun i:Nat=>(true,C,(i:Int),y,T,K,())) (fun i=>100-i) (fun i=>i<=70) (fun _ r=>r=.inr (true,C,y,T,()))
  (fun i ab=>by
   by_cases bb:i<K.length
   ·left;have a7:(decide (((i:Int))<((List.length K:Nat):Int)))=true:=am (by omega);have aY:=ff i;have c3:List.getD K i ([]:af)=K[i]:=cq bb;obtain ⟨q,c,n,g1,g2,-⟩:=arU K[i] (by have:=b8 _ (List.getElem_mem bb);omega);rw[NA]at g1;rw[dc]at g2;obtain ⟨p,b,f1,f2⟩:=apY C K[i] (by omega);obtain ⟨rfl,rfl⟩:=g2.uniq lU f2;have d4:i64.wrap ((i:Int)+3)=((i+3:Nat):Int):=by rw[cU (by omega)];omega
    refine ⟨i+3,?_,by omega,by omega,fun r aA=>aA⟩;simp only[AN,a7,aY,az,b7,bQ,c3,f1,K1,g1,cL,du,dm,beq_self_eq_true,oB,aM,d4]
   ·right;have a7:(decide (((i:Int))<((List.length K:Nat):Int)))=false:=bg (by omega);exact ⟨_,by simp only[AN,a7,aM],rfl⟩) (w.toNat%3) (by omega) (by omega)
 have ix:PJ (true,C,((w.toNat%3:Nat):Int),y,T,K,())=some (.inr (true,C,y,T,())):=bu;obtain ⟨S,kG⟩: ∃S,W++[(([]:af),(([]:af),()))]=S:=⟨_,rfl⟩;have awf:S.length<=3:=by rw[<-kG];simp;omega
 have ari: ∀s∈S,s.1.length<=200/\s.2.1.length<=200:=by
  intro s ar;rw[<-kG]at ar;rcases List.mem_append.1 ar with h |h
  ·exact fy s h
  ·obtain rfl:=List.mem_singleton.1 h;exact ⟨Nat.zero_le _,Nat.zero_le _⟩
 obtain ⟨z,dq,rfl⟩:=dY (b:=AO) (fun i (_:Unit)=>(true,C,(i:Int),T,S,())) S.length (fun _ _=>True) (fun z=>z=.inr (true,())) (by omega)
  (fun i ab _ _=>by
   left;have a7:(decide (((i:Int))<((List.length S:Nat):Int)))=true:=am (by omega);have aY:=ff i;have g1:=asH S[i] (ari _ (List.getElem_mem ab));rw[NA,dc]at g1;have g2:=aab C S[i] (by omega);rw[ap7]at g2;have ln:=List.length_filter_le (mz S[i]) C;have g3:=aoL (C.filter (mz S[i])) (by omega);have w:=fa (j:=i) (by omega);exact ⟨(),trivial,by simp only[AO,a7,aY,az,b7,bQ,cq ab,g1,cL,du,dm,g2,g3,aM,w]⟩)
  (fun _ _=>by
   have a7:(decide (((S.length:Nat):Int)<((List.length S:Nat):Int)))=false:=bg (by omega);exact ⟨_,rfl,by simp only[AO,a7,aM]⟩) () trivial
 have aq4:PK (true,C,(0:Int),T,S,())=some (.inr (true,())):=dq;have room:(decide ((List.length W+List.length ([(([]:af),(([]:af),()))]:List (ah)))*32<=bm))=true:=am (by rw[dV];simp;omega);unfold wA;rw[agG];simp only[aa,eY,a1,b6,ix,cZ,cV,room,az,kG,aq4]
theorem am1 {B:aD->Nat} (al:B Bo=3) (bu:B pX=6) (mi:eh) (hx:mn) (jw:Int) (g0:aD.good B RW mi) (g1:aD.good B pX hx) (g2:aD.good B (.int .u8) jw):wA (mi,hx,jw,())=some (true,()):=
 amC mi hx jw (ahC al bu g0) ⟨⟨j2 g1.1,j2 g1.2.1,j2 g1.2.2.1,j2 g1.2.2.2.1⟩,j2 g1.2.2.2.2.1,j2 g1.2.2.2.2.2.1⟩ (j2 g2)
end D
