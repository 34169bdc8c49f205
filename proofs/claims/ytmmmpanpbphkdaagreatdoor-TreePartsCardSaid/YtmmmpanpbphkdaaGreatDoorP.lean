import Derived.Test.YtmmmpanpbphkdaaGreatDoorPa
set_option linter.unusedVariables false
set_option linter.unusedSimpArgs false
set_option maxRecDepth 100000
open Go Go.X
open Go.IntKind (i64)
namespace D
open Go
open Go
abbrev h5:af->af:=fun s=>s
theorem aoU (l:List af) (k:af) (au:cg h5 l) (ao:l.length<=100000):
  EK (l,k,())=some ((cD h5 k l:Int),eB (key:=h5) k l,()):=by
 have hle:=mU (key:=h5) k l;obtain ⟨r,aa,ad⟩:=xK (b:=ED) (fun s=>(s.2.2.2.2.1-s.2.2.2.1).toNat)
  (fun s=> ∃I J:Nat,s=(l,k,(l.length:Int),(I:Int),(J:Int),())/\I<=J/\J<=l.length/\(∀(m:Nat) (h:m<l.length),m<I->Op.bytesLess (l[m]) k=true)/\(∀(m:Nat) (h:m<l.length),J<=m->Op.bytesLess (l[m]) k=false))
  (fun r=>r=.inl (l,k,(l.length:Int),(cD h5 k l:Int),()))
  (fun s ab=>by
   obtain ⟨I,J,rfl,i1,i2,i3,i4⟩:=ab;have hm:=ZK (I:=I) (J:=J) (by omega);unfold ED;simp only[hm];by_cases nk:I<J
   ·left;have a7:((I:Int)<(J:Int)):=by omega
    have cY:i64.wrap (((I+J)/2:Nat):Int)=(((I+J)/2:Nat):Int):=cR (by omega);have aY:((0:Int)<=(((I+J)/2:Nat):Int)):=by omega
    have c3:((((I+J)/2:Nat):Int)<(l.length:Int)):=by omega
    have a8:(I+J)/2<l.length:=by omega
    have bH:List.getD l ((I+J)/2) ([]:af)=l[(I+J)/2]:=cn a8;have c0:i64.wrap ((((I+J)/2:Nat):Int)+1)=(((I+J)/2+1:Nat):Int):=by rw[cR (by omega)];omega
    simp only[cY,a7,aY,c3,am,aA,b7,bQ,bH,aoe,c0];cases ag:Op.bytesLess (l[(I+J)/2]) k
    ·simp only[aL];refine ⟨_,rfl,⟨I,(I+J)/2,rfl,by omega,by omega,i3,fun m h hm=> ?_⟩,by simp;omega⟩;rcases Nat.lt_or_ge m J with aZ |aZ
     ·cases dB:Op.bytesLess (l[m]) k
      ·rfl
      ·rcases Nat.eq_or_lt_of_le hm with bt |bt
       ·subst bt;rw[ag]at dB;cases dB
       ·have dn:Op.bytesLess (l[(I+J)/2]) (l[m])=true:=List.pairwise_iff_getElem.1 au _ _ a8 h bt;have:=e5 dn dB;rw[ag]at this;cases this
     ·exact i4 m h aZ
    ·simp only[aA];refine ⟨_,rfl,⟨(I+J)/2+1,J,rfl,by omega,i2,fun m h hm=> ?_,i4⟩,by simp;omega⟩;rcases Nat.eq_or_lt_of_le (show m<=(I+J)/2 by omega) with bt |bt
     ·subst bt;exact ag
     ·have dn:Op.bytesLess (l[m]) (l[(I+J)/2])=true:=List.pairwise_iff_getElem.1 au _ _ h a8 bt;exact e5 dn ag
   ·right;have a7: ¬((I:Int)<(J:Int)):=by omega
    have he:I=J:=by omega
    subst he;simp only[a7,bj,aL,not_false_eq_true];refine ⟨_,rfl,?_⟩;have:=JT (key:=h5) k l au I i2 i3 i4;rw[this])
  (l,k,(l.length:Int),(0:Int),(l.length:Int),()) ⟨0,l.length,by simp,by omega,by omega,fun m h hm=>by omega,fun m h hm=>by omega⟩ (by simp;omega)
 subst ad;have dc:MD (l,k,(l.length:Int),(0:Int),(l.length:Int),())=some (.inl (l,k,(l.length:Int),(cD h5 k l:Int),())):=aa;simp only[EK,dc];by_cases a8:cD h5 k l<l.length
 ·have a7:((cD h5 k l:Int)<(l.length:Int)):=by omega
  have aY:((0:Int)<=(cD h5 k l:Int)):=by omega
  have bH:List.getD l (cD h5 k l) ([]:af)=l[cD h5 k l]:=cn a8;have ai: ∀a:af,(!decide (a=a))=false:=by simp
  simp only[a7,aY,am,aA,b7,FA,ai,aL,bQ,bH];rw[DG k l au a8];by_cases he:l[cD h5 k l]=k
  ·rw[am he];rfl
  ·rw[bj he];rfl
 ·have a7: ¬((cD h5 k l:Int)<(l.length:Int)):=by omega
  simp only[a7,bj,aL,not_false_eq_true];rw[x1 k l (by omega)]
theorem YC (k:af): ∀(m:List af),(m.Pairwise fun a b=>Op.bytesLess a b=true)->ho k m=cD h5 k m+(if eB (key:=h5) k m=true then 1 else 0)
 |[],_=>rfl
 |p::m,h=>by
  have al:=List.pairwise_cons.1 h;have aO:=YC k m al.2;have aqI:eB (key:=h5) k (p::m)=(decide (p=k)||eB (key:=h5) k m):=rfl;have jj: ∀x:af,(∀q∈m,Op.bytesLess x q=true)->Op.bytesLess k x=true\/k=x->eB (key:=h5) k m=false:=by
   intro x aw Nj;unfold eB;rw[List.any_eq_false];intro q aN e;have e:q=k:=of_decide_eq_true e;have:=aw q aN;rw[e]at this;rcases Nj with h |h
   ·rw[hG h]at this;cases this
   ·rw[h,gJ]at this;cases this
  have Nk: ∀x:af,(∀q∈m,Op.bytesLess x q=true)->Op.bytesLess k x=true\/k=x->cD h5 k m=0:=by
   intro x aw Nj;cases m with
   |nil=>rfl
   |cons q m=>
    unfold cD;have aa:=aw q List.mem_cons_self;have ad:Op.bytesLess k q=true:=by
     rcases Nj with h |h
     ·exact e5 h aa
     ·rw[h];exact aa
    rw[if_neg (by show ¬Op.bytesLess q k=true;rw[hG ad];simp)]
  unfold ho cD;rw[aqI];rcases hg p k with aP |aP |aP
  ·rw[if_neg (by rw[hG aP];simp),if_pos aP,bj (jl aP),Bool.false_or,aO];omega
  ·subst aP;have aa:=jj p al.1 (.inr rfl);have ad:=Nk p al.1 (.inr rfl);rw[if_neg (by rw[gJ];simp),if_neg (by show ¬Op.bytesLess p p=true;rw[gJ];simp),am rfl,Bool.true_or,if_pos rfl,aO,aa,ad];simp
  ·have aa:=jj p al.1 (.inl aP);rw[if_pos aP,if_neg (by show ¬Op.bytesLess p k=true;rw[hG aP];simp),bj (fun e=>jl aP e.symm),aa];simp
theorem afo (k:af) (ps:List af) (au:ps.Pairwise fun a b=>Op.bytesLess a b=true) (ao:ps.length<=1000):Da (k,ps,())=some ((ho k ps:Int),()):=by
 have aa:=aoU ps k au (by omega);have ad:=YC k ps au;have al:=mU (key:=h5) k ps;simp only[Da,aa];cases ag:eB (key:=h5) k ps
 ·rw[ag]at ad;simp only[aL];rw[ad];simp
 ·rw[ag]at ad;simp only[aA];rw[cR (by omega),ad];rfl
abbrev nO:ak:=(([]:af),(([]:af),((0:Int),())))
def iF (l:List ak) (k:af) (p:ak) (b:Bool):Prop:=(b=true->p∈l/\p.1=k)/\(b=false->p=nO/\ ∀q∈l,q.1≠k)
theorem iF.uniq {l:List ak} {k:af} (au:cg bu l) {p q:ak} {b c:Bool} (aa:iF l k p b) (ad:iF l k q c):p=q/\b=c:=by
 cases b<;>cases c
 ·exact ⟨(aa.2 rfl).1.trans (ad.2 rfl).1.symm,rfl⟩
 ·obtain ⟨c2,cr⟩:=ad.1 rfl;exact absurd cr ((aa.2 rfl).2 q c2)
 ·obtain ⟨c2,cr⟩:=aa.1 rfl;exact absurd cr ((ad.2 rfl).2 p c2)
 ·obtain ⟨c2,cr⟩:=aa.1 rfl;obtain ⟨cC,dj⟩:=ad.1 rfl;refine ⟨?_,rfl⟩;obtain ⟨i,ab,rfl⟩:=List.mem_iff_getElem.1 c2;obtain ⟨j,ay,rfl⟩:=List.mem_iff_getElem.1 cC;rcases Nat.lt_trichotomy i j with h |h |h
  ·have:Op.bytesLess (l[i]).1 (l[j]).1=true:=List.pairwise_iff_getElem.1 au _ _ ab ay h;exact absurd (cr.trans dj.symm) (jl this)
  ·subst h;rfl
  ·have:Op.bytesLess (l[j]).1 (l[i]).1=true:=List.pairwise_iff_getElem.1 au _ _ ay ab h;exact absurd (dj.trans cr.symm) (jl this)
theorem ao0 (l:List ak) (k:af) (au:cg bu l) (ao:l.length<=1000000000): ∃p b,CV (l,k,())=some (p,b,())/\iF l k p b:=by
 have aa:=Di l k au (by omega);simp only[CV,aa];have hle:=mU (key:=bu) k l;cases ag:eB (key:=bu) k l
 ·refine ⟨_,_,rfl,fun h=>(by cases h),fun _=>⟨rfl,fun q aN e=> ?_⟩⟩;unfold eB at ag;rw[List.any_eq_false]at ag;exact ag q aN (am e)
 ·have a8:cD bu k l<l.length:=by
   rcases Nat.lt_or_ge (cD bu k l) l.length with h |h
   ·exact h
   ·rw[x1 k l (by omega)]at ag;cases ag
  have a7:((cD bu k l:Int)<(l.length:Int)):=by omega
  have aY:((0:Int)<=(cD bu k l:Int)):=by omega
  have bH:List.getD l (cD bu k l) nO=l[cD bu k l]:=cn a8;simp only[a7,aY,am,aA,b7,bQ,bH];refine ⟨_,_,rfl,fun _=>⟨List.getElem_mem a8,?_⟩,fun h=>(by cases h)⟩;rw[DG k l au a8]at ag;exact of_decide_eq_true ag
theorem Lq {low C:List ak} {k:af} {S:Src} (dg: ∀x:ak,x.1=k->(x∈C↔nL S low x)) {p:ak} {b:Bool} (h: ∀k' st,S=.old k' st->iF low k' p b):
  ∃q c,CF (lr k S,p,b,())=some (q,c,())/\iF C k q c:=by
 cases S with
 |gen v n=>
  refine ⟨(k,v,n,()),true,rfl,fun _=>⟨(dg _ rfl).2 rfl,rfl⟩,fun h=>(by cases h)⟩
 |gone=>
  refine ⟨nO,false,rfl,fun h=>(by cases h),fun _=>⟨rfl,fun q aN e=> ?_⟩⟩;exact (dg q e).1 aN
 |old k' st=>
  have h:=h k' st rfl;cases b with
  |false=>
   obtain ⟨aa,ad⟩:=h.2 rfl;refine ⟨nO,false,rfl,fun h=>(by cases h),fun _=>⟨rfl,fun q aN e=> ?_⟩⟩;obtain ⟨y,bf,ai,-⟩:=(dg q e).1 aN;exact ad y bf ai
  |true=>
   obtain ⟨aa,ad⟩:=h.1 rfl;refine ⟨(k,p.2.1,st.getD p.2.2.1,()),true,?_,fun _=>⟨(dg _ rfl).2 ⟨p,aa,ad,rfl⟩,rfl⟩,fun h=>(by cases h)⟩;cases st<;>rfl
def xh (C:List ak) (k:af):List mG->af->List ak->Prop
 |[],h0,hx=>h0=k/\hx=C
 |f::fs,h0,hx=> ∃hn y2,(∀p b,iF hx h0 p b-> ∃q c,CF (f,p,b,())=some (q,c,())/\iF y2 hn q c)/\xh C k fs hn y2
theorem ao3 (C:List ak) (k:af) (n:Int) (aQ:n>=1): ∀(fs:List mG) (h0:af) (hx:List ak) (p:ak) (b:Bool),fs.length<=1000->xh C k fs h0 hx->iF hx h0 p b->
  ∃q c,Bz (0,fs,p,b,n,())=some (.inl (0,q,c,n,()))/\iF C k q c:=by
 intro fs h0 hx p b ao aB aJ;obtain ⟨r,aa,q,c,rfl,ad⟩:=xK (b:=rt) (fun s=>s.2.1.length) (fun s=>s.1=0/\s.2.2.2.2.1=n/\ ∃h0 hx,xh C k s.2.1 h0 hx/\iF hx h0 s.2.2.1 s.2.2.2.1) (fun r=> ∃q c,r=.inl (0,q,c,n,())/\iF C k q c)
  (fun s ab=>by
   obtain ⟨e,fs,p,b,aI,u⟩:=s;obtain ⟨aa,ad,h0,hx,al,aE⟩:=ab;simp only at aa ad al aE;subst aa ad;cases fs with
   |nil=>
    right;obtain ⟨ai,aq⟩:=al;subst ai aq;exact ⟨_,rfl,p,b,rfl,aE⟩
   |cons x fs=>
    left;have ai:decide ((aI:Int)>(0:Int))=true:=am (by omega);obtain ⟨hn,y2,aZ,bt⟩:=al;obtain ⟨q,c,aN,bH⟩:=aZ p b aE;simp only[rt,List.isEmpty_cons,aL,List.head?_cons,aN,List.tail_cons,ai,aA];exact ⟨_,rfl,⟨rfl,rfl,hn,y2,bt,bH⟩,by simp⟩) (0,fs,p,b,n,()) ⟨rfl,rfl,h0,hx,aB,aJ⟩ (by show fs.length<_;omega)
 exact ⟨q,c,aa,ad⟩
theorem li {S ρ σ:Type} {b:S->Option (S⊕ρ)} (mk:σ->S) (μ:σ->Nat) (Inv:σ->Prop) (Q:σ->ρ->Prop)
  (h: ∀q,Inv q->(∃t,b (mk q)=some (.inl (mk t))/\Inv t/\μ t<μ q/\ ∀r,Q t r->Q q r)\/(∃r,b (mk q)=some (.inr r)/\Q q r)) (q:σ) (aN:Inv q) (hm:μ q<100000000000000000000):
  ∃r,bM b (mk q)=some r/\Q q r:=by
 have key: ∀(N:Nat) (q:σ),Inv q->μ q<N-> ∃r,dR b N (mk q)=some r/\Q q r:=by
  intro N
  induction N with
  |zero=>intro q _ h;omega
  |succ N aO=>
   intro q aN ky;rcases h q aN with ⟨t,aa,ad,al,aE⟩|⟨r,aa,ad⟩
   ·obtain ⟨r,aZ,bt⟩:=aO t ad (by omega);exact ⟨r,by simp only[dR,aa,aZ],aE r bt⟩
   ·exact ⟨r,by simp only[dR,aa],ad⟩
 obtain ⟨r,aa,ad⟩:=key (μ q+1) q aN (by omega);exact ⟨r,lp (by rw[jM];omega) aa,ad⟩
abbrev e7:ah:=(([]:af),(([]:af),()))
def bp (x y:ah):Bool:=Op.bytesLess x.1 y.1
theorem ae9 {a b c:af} (aa:Op.bytesLess a b=false) (ad:Op.bytesLess b c=false):Op.bytesLess a c=false:=mJ ad aa
theorem yC:Sort.SWO bp where
 irrefl:=fun x=>gJ x.1
 trans:=fun x y z aa ad=>e5 aa ad
 ntrans:=fun x y z aa ad=>ae9 aa ad
theorem ami (a b:af):FG (a,b,())=some (k4 a b,()):=by
 have e: ∀a:af,(!decide (a=a))=false:=by simp
 simp only[FG,s6,e,aL];unfold k4;cases h:Op.bytesLess a b
 ·by_cases fc:a=b
  ·subst fc;simp
  ·simp[fc]
 ·simp
theorem kQ (x y:ah):jA (x,y,())=some (k4 x.1 y.1,()):=by
 simp only[jA,ami]
theorem kJ (x y:ah):decide (k4 x.1 y.1<0)=bp x y:=by
 unfold bp;cases h:Op.bytesLess x.1 y.1
 ·exact bj (by rw[DB,h];simp)
 ·exact am (DB.2 h)
theorem dP {i n:Nat} (h:i<n):(decide ((0:Int)<=(i:Int))&&decide ((i:Int)<(n:Int)))=true:=by
 rw[am (by omega),am (by omega)];rfl
theorem GR {j:Nat} (h:j<4611686018427387904):i64.wrap (((j+1:Nat):Int)-1)=(j:Int):=by rw[cR (by omega)];omega
theorem fi {j:Nat} (h:j<4611686018427387904):i64.wrap ((j:Int)+1)=((j+1:Nat):Int):=by rw[cR (by omega)];omega
def e8 (l:List ah) (i j:Nat):List ah:=(l.set i (List.getD l j e7)).set j (List.getD l i e7)
theorem fx (l:List ah) (i j:Nat):(e8 l i j).length=l.length:=by simp[e8]
theorem fC (l:List ah) (i:Nat):(l.toArray)[i]! =List.getD l i e7:=by
 rw[List.getElem!_toArray,List.getElem!_eq_getElem?_getD];rfl
theorem jQ (l:List ah) (i j:Nat):Sort.swp l.toArray i j=(e8 l i j).toArray:=by
 unfold Sort.swp e8;simp only[fC,List.setIfInBounds_toArray]
theorem alX (a b i:Nat) (l:List ah) (j:Nat) (ay:j<l.length) (ao:l.length<4611686018427387904):
  Ey ((a:Int),(b:Int),(i:Int),(j:Int),l,())=some (.inl ((a:Int),(b:Int),(i:Int),(Sort.insInner bp a j l.toArray).toList,())):=by
 obtain ⟨r,aa,ad⟩:=li (b:=u9) (fun q:Nat×List ah=>((a:Int),(b:Int),(i:Int),(q.1:Int),q.2,())) (fun q=>q.1)
  (fun q=>q.1<q.2.length/\q.2.length<4611686018427387904) (fun q r=>r=.inl ((a:Int),(b:Int),(i:Int),(Sort.insInner bp a q.1 q.2.toArray).toList,()))
  (fun q aN=>by
   obtain ⟨j,l⟩:=q;obtain ⟨ay,ao⟩:=aN;simp only at ay ao;cases j with
   |zero=>
    right;refine ⟨_,?_,rfl⟩;have c: ¬(((0:Nat):Int)>(a:Int)):=by omega
    simp only[u9,yH,bj c,aL];rfl
   |succ j=>
    by_cases aR:j+1>a
    ·have c:(((j+1:Nat):Int)>(a:Int)):=by omega
     have w:=GR (j:=j) (by omega);simp only[u9,yH,am c,aA,dP ay,w,dP (show j<l.length by omega),kQ,kJ,bQ,List.length_set];cases a8:bp (List.getD l (j+1) e7) (List.getD l j e7)
     ·right;refine ⟨_,rfl,?_⟩;unfold Sort.insInner;rw[fC,fC,a8];simp
     ·left;refine ⟨(j,e8 l (j+1) j),rfl,⟨by simp only[fx];omega,by simp only[fx];exact ao⟩,by simp,fun r az=> ?_⟩;rw[az];have:Sort.insInner bp a (j+1) l.toArray=Sort.insInner bp a j (e8 l (j+1) j).toArray:=by
       conv=>lhs;unfold Sort.insInner
       rw[fC,fC,a8,jQ];simp[aR]
      simp only[this]
    ·right;have c: ¬(((j+1:Nat):Int)>(a:Int)):=by omega
     refine ⟨_,?_,rfl⟩;simp only[u9,yH,bj c,aL];have:Sort.insInner bp a (j+1) l.toArray=l.toArray:=by
      unfold Sort.insInner;simp[aR]
     rw[this]) (j,l) ⟨ay,ao⟩ (by simp only;omega)
 rw[show Ey ((a:Int),(b:Int),(i:Int),(j:Int),l,())=some r from aa,ad]
theorem uC {α:Type} [Inhabited α] (d:Array α) (i j:Nat):(Sort.swp d i j).size=d.size:=by simp[Sort.swp]
theorem UO (a:Nat): ∀(j:Nat) (d:Array ah),(Sort.insInner bp a j d).size=d.size
 |0,_=>rfl
 |j+1,d=>by
  unfold Sort.insInner;split
  ·rw[UO a j,uC]
  ·rfl
theorem alO (a b:Nat) (l:List ah) (ag:b<=l.length) (ao:l.length<4611686018427387904) (fc:a<=b):
  Ek ((a:Int),(b:Int),l,())=some ((Sort.insertionSort bp l.toArray a b).toList,()):=by
 obtain ⟨r,aa,ad⟩:=li (b:=y1) (fun q:Nat×List ah=>((a:Int),(b:Int),(q.1:Int),q.2,())) (fun q=>b-q.1)
  (fun q=>b<=q.2.length/\q.2.length<4611686018427387904/\q.1<=b+1) (fun q r=>r=.inl ((Sort.insOuter bp a b q.1 q.2.toArray).toList,()))
  (fun q aN=>by
   obtain ⟨i,l⟩:=q;obtain ⟨ag,ao,ab⟩:=aN;simp only at ag ao ab;by_cases gV:i<b
   ·left;have c:((i:Int)<(b:Int)):=by omega
    have e:=alX a b i l i (by omega) ao;have w:=fi (j:=i) (by omega);simp only[y1,am c,aA,e,w];have au:(Sort.insInner bp a i l.toArray).toList.length=l.length:=by rw[Array.length_toList,UO];rfl
    refine ⟨(i+1,(Sort.insInner bp a i l.toArray).toList),rfl,⟨by simp only[au];exact ag,by simp only[au];exact ao,by simp only;omega⟩,by simp only;omega,fun r az=> ?_⟩;rw[az];have:Sort.insOuter bp a b i l.toArray=Sort.insOuter bp a b (i+1) (Sort.insInner bp a i l.toArray):=by
     conv=>lhs;unfold Sort.insOuter
     rw[if_pos gV]
    simp only[this,Array.toArray_toList]
   ·right;have c: ¬((i:Int)<(b:Int)):=by omega
    refine ⟨_,?_,rfl⟩;have:Sort.insOuter bp a b i l.toArray=l.toArray:=by
     unfold Sort.insOuter;rw[if_neg gV]
    simp only[y1,bj c,aL,this]) (a+1,l) ⟨ag,ao,by simp only;omega⟩ (by simp only;omega)
 have w:=fi (j:=a) (by omega);have dc:Mp ((a:Int),(b:Int),((a+1:Nat):Int),l,())=some r:=aa;subst ad;simp only[Ek,w,dc];rfl
theorem Bu {i j:Nat} (h:i+j<9223372036854775808):i64.wrap ((i:Int)+(j:Int))=((i+j:Nat):Int):=by rw[cR (by omega)];omega
theorem Im: ∀(n ab first root:Nat) (d:Array ah),ab-root<=n->(Sort.siftDown bp ab first root d).size=d.size:=by
 intro n
 induction n with
 |zero=>
  intro ab first root d h
  unfold Sort.siftDown;rw[dif_pos (by omega)]
 |succ n aO=>
  intro ab first root d h
  unfold Sort.siftDown;split
  ·rfl
  ·split
   ·split
    ·rfl
    ·split
     ·rw[aO _ _ _ _ (by omega),uC]
     ·rfl
   ·split
    ·rfl
    ·rw[aO _ _ _ _ (by omega),uC]
theorem Zq (lo ab first:Nat) (l:List ah) (aa:first+ab<=l.length) (ad:l.length<4611686018427387904) (al:lo<=l.length):
  ze ((lo:Int),(ab:Int),(first:Int),l,())=some ((Sort.siftDown bp ab first lo l.toArray).toList,()):=by
 obtain ⟨r,g1,g2⟩:=li (b:=sx) (fun q:Nat×List ah=>((ab:Int),(first:Int),(q.1:Int),q.2,())) (fun q=>ab+1-q.1)
  (fun q=>first+ab<=q.2.length/\q.2.length<4611686018427387904/\q.1<=q.2.length)
  (fun q r=>r=.inl ((Sort.siftDown bp ab first q.1 q.2.toArray).toList,())\/r=.inr ((Sort.siftDown bp ab first q.1 q.2.toArray).toList,()))
  (fun q aN=>by
   obtain ⟨root,l⟩:=q;obtain ⟨aa,ad,al⟩:=aN;simp only at aa ad al;have gu:i64.wrap (i64.wrap ((2:Int)*(root:Int))+1)=((2*root+1:Nat):Int):=by
    rw[cR (x:=2*(root:Int)) (by omega),cR (by omega)];omega
   by_cases aB:2*root+1>=ab
   ·right;have c:(((2*root+1:Nat):Int)>=(ab:Int)):=by omega
    refine ⟨_,?_,.inl rfl⟩;have e:Sort.siftDown bp ab first root l.toArray=l.toArray:=by
     unfold Sort.siftDown;rw[dif_pos aB]
    simp only[sx,gu,am c,aA,e]
   ·have c: ¬(((2*root+1:Nat):Int)>=(ab:Int)):=by omega
    have cY:=fi (j:=2*root+1) (by omega);have c0:=Bu (i:=first) (j:=2*root+1) (by omega);have fJ:=fi (j:=first+(2*root+1)) (by omega);have Pa:=Bu (i:=first) (j:=root) (by omega);have tail: ∀kq:Nat,kq<ab->root<kq->(bp (List.getD l (first+root) e7) (List.getD l (first+kq) e7)=false->Sort.siftDown bp ab first root l.toArray=l.toArray)->
      (bp (List.getD l (first+root) e7) (List.getD l (first+kq) e7)=true->Sort.siftDown bp ab first root l.toArray=Sort.siftDown bp ab first kq (e8 l (first+root) (first+kq)).toArray)->
      (∃t:Nat×List ah,za ((ab:Int),(first:Int),(root:Int),(kq:Int),l,())=some (.inl ((ab:Int),(first:Int),(t.1:Int),t.2,()))/\(first+ab<=t.2.length/\t.2.length<4611686018427387904/\t.1<=t.2.length)/\ab+1-t.1<ab+1-root/\
       ∀r,(r=.inl ((Sort.siftDown bp ab first t.1 t.2.toArray).toList,())\/r=.inr ((Sort.siftDown bp ab first t.1 t.2.toArray).toList,()))->(r=Sum.inl ((Sort.siftDown bp ab first root l.toArray).toList,())\/r=Sum.inr ((Sort.siftDown bp ab first root l.toArray).toList,())))\/
      (∃r,za ((ab:Int),(first:Int),(root:Int),(kq:Int),l,())=some (.inr r)/\(r=Sum.inl ((Sort.siftDown bp ab first root l.toArray).toList,())\/r=Sum.inr ((Sort.siftDown bp ab first root l.toArray).toList,()))):=by
     intro kq lM a8 ai aq;have aus:=Bu (i:=first) (j:=kq) (by omega);simp only[za,Pa,aus,dP (show first+root<l.length by omega),dP (show first+kq<l.length by omega),aA,bQ,kQ,kJ,List.length_set];cases ag:bp (List.getD l (first+root) e7) (List.getD l (first+kq) e7)
     ·right;refine ⟨_,rfl,.inr ?_⟩;rw[ai ag]
     ·left;refine ⟨(kq,e8 l (first+root) (first+kq)),rfl,⟨by simp only[fx];exact aa,by simp only[fx];exact ad,by simp only[fx];omega⟩,by simp only;omega,fun r az=> ?_⟩;rw[aq ag];exact az
    by_cases j3:2*root+1+1<ab
    ·have aY:(((2*root+1+1:Nat):Int)<(ab:Int)):=by omega
     cases ag:bp (List.getD l (first+(2*root+1)) e7) (List.getD l (first+(2*root+1)+1) e7)
     ·have:=tail (2*root+1) (by omega) (by omega) (fun dB=>by
       unfold Sort.siftDown;rw[dif_neg aB];simp only[fC,ag,dB,Bool.and_false,dr,if_true,Bool.false_eq_true,if_false]) (fun dB=>by
       conv=>lhs;unfold Sort.siftDown
       rw[dif_neg aB];simp only[fC,jQ,ag,dB,Bool.and_false,dt,Bool.false_eq_true,if_false])
      simp only[sx,yT,gu,cY,c0,fJ,bj c,am aY,aA,aL,dP (show first+(2*root+1)<l.length by omega),dP (show first+(2*root+1)+1<l.length by omega),bQ,kQ,kJ,ag];exact this
     ·have:=tail (2*root+1+1) (by omega) (by omega) (fun dB=>by
       unfold Sort.siftDown;rw[dif_neg aB];simp only[fC,ag,dB,j3,cK,Bool.true_and,dr,if_true]) (fun dB=>by
       conv=>lhs;unfold Sort.siftDown
       rw[dif_neg aB];simp only[fC,jQ,ag,dB,j3,cK,Bool.true_and,dt,Bool.false_eq_true,if_false,if_true];exact dif_pos trivial)
      simp only[sx,yT,gu,cY,c0,fJ,bj c,am aY,aA,aL,dP (show first+(2*root+1)<l.length by omega),dP (show first+(2*root+1)+1<l.length by omega),bQ,kQ,kJ,ag];exact this
    ·have aY: ¬(((2*root+1+1:Nat):Int)<(ab:Int)):=by omega
     have:=tail (2*root+1) (by omega) (by omega) (fun dB=>by
      unfold Sort.siftDown;rw[dif_neg aB];simp only[fC,dB,j3,decide_false,Bool.false_and,dr,if_true,Bool.false_eq_true,if_false]) (fun dB=>by
      conv=>lhs;unfold Sort.siftDown
      rw[dif_neg aB];simp only[fC,jQ,dB,j3,decide_false,Bool.false_and,dt,Bool.false_eq_true,if_false])
     simp only[sx,yT,gu,cY,bj c,bj aY,aA,aL];exact this) (lo,l) ⟨aa,ad,al⟩ (by simp only;omega)
 have kx:N4 ((ab:Int),(first:Int),(lo:Int),l,())=some r:=g1;simp only[ze,kx];rcases g2 with rfl |rfl<;>rfl
theorem T6 (ab first:Nat): ∀(k:Nat) (d:Array ah),(Sort.heapBuild bp ab first k d).size=d.size
 |0,_=>rfl
 |k+1,d=>by
  unfold Sort.heapBuild;rw[T6 ab first k,Im (ab-k) ab first k d (Nat.le_refl _)]
theorem afs (a b:Nat) (l:List ah) (fc:a<b) (ag:b<=l.length) (ao:l.length<4611686018427387904):
  EL ((a:Int),(b:Int),l,())=some ((Sort.heapSort bp l.toArray a b).toList,()):=by
 obtain ⟨ab,iw⟩: ∃ab,b-a=ab:=⟨_,rfl⟩;have gu:i64.wrap ((b:Int)-(a:Int))=(ab:Int):=by rw[cR (by omega)];omega
 have O9:i64.wrap (Int.tdiv (i64.wrap ((ab:Int)-1)) 2)=((((ab-1)/2+1:Nat):Int)-1):=by
  have e:i64.wrap ((ab:Int)-1)=((ab-1:Nat):Int):=by rw[cR (by omega)];omega
  rw[e];have aq:Int.tdiv (((ab-1:Nat):Int)) 2=(((ab-1)/2:Nat):Int):=by
   rw[Int.tdiv_eq_ediv_of_nonneg (by omega)];rfl
  rw[aq,cR (by omega)];omega
 obtain ⟨r,g1,g2⟩:=li (b:=yY) (fun q:Nat×List ah=>((a:Int),(0:Int),(ab:Int),(q.1:Int)-1,q.2,())) (fun q=>q.1)
  (fun q=>a+ab<=q.2.length/\q.2.length<4611686018427387904/\q.1<=q.2.length+1) (fun q r=>r=.inl ((a:Int),(0:Int),(ab:Int),(Sort.heapBuild bp ab a q.1 q.2.toArray).toList,()))
  (fun q aN=>by
   obtain ⟨k,l⟩:=q;obtain ⟨aa,ad,al⟩:=aN;simp only at aa ad al;cases k with
   |zero=>
    right;have c: ¬(((0:Nat):Int)-1>=0):=by omega
    refine ⟨_,?_,rfl⟩;simp only[yY,bj c,aL];rfl
   |succ k=>
    left;have e:(((k+1:Nat):Int)-1)=(k:Int):=by omega
    have c:((k:Int)>=0):=by omega
    have au:=Zq k ab a l aa ad (by omega);have w:i64.wrap ((k:Int)-1)=(k:Int)-1:=cR (by omega);have dh:(Sort.siftDown bp ab a k l.toArray).toList.length=l.length:=by rw[Array.length_toList,Im (ab-k) ab a k _ (Nat.le_refl _)];rfl
    simp only[yY,e,am c,aA,au,w];refine ⟨(k,(Sort.siftDown bp ab a k l.toArray).toList),rfl,⟨by simp only[dh];exact aa,by simp only[dh];exact ad,by simp only[dh];omega⟩,by simp,fun r az=> ?_⟩;rw[az];simp only[Array.toArray_toList];rfl) ((ab-1)/2+1,l) ⟨by simp only;omega,ao,by simp only;omega⟩ (by simp only;omega)
 subst g2;have kx:MO ((a:Int),(0:Int),(ab:Int),((((ab-1)/2+1:Nat):Int)-1),l,())=some (.inl ((a:Int),(0:Int),(ab:Int),(Sort.heapBuild bp ab a ((ab-1)/2+1) l.toArray).toList,())):=g1;obtain ⟨m,hm⟩: ∃m,(Sort.heapBuild bp ab a ((ab-1)/2+1) l.toArray).toList=m:=⟨_,rfl⟩;have iO:m.length=l.length:=by rw[<-hm,Array.length_toList,T6];rfl
 obtain ⟨r,a1,k2⟩:=li (b:=yZ) (fun q:Nat×List ah=>((a:Int),(0:Int),(q.1:Int)-1,q.2,())) (fun q=>q.1)
  (fun q=>a+q.1<=q.2.length/\q.2.length<4611686018427387904) (fun q r=>r=.inl ((Sort.heapPop bp a q.1 q.2.toArray).toList,()))
  (fun q aN=>by
   obtain ⟨k,l⟩:=q;obtain ⟨aa,ad⟩:=aN;simp only at aa ad;cases k with
   |zero=>
    right;have c: ¬(((0:Nat):Int)-1>=0):=by omega
    refine ⟨_,?_,rfl⟩;simp only[yZ,bj c,aL];rfl
   |succ k=>
    left;have e:(((k+1:Nat):Int)-1)=(k:Int):=by omega
    have c:((k:Int)>=0):=by omega
    have c0:=Bu (i:=a) (j:=k) (by omega);have au:=Zq 0 k a (e8 l a (a+k)) (by rw[fx];omega) (by rw[fx];exact ad) (by omega);rw[Int.natCast_zero]at au
    conv at au=>lhs;unfold e8
    have w:i64.wrap ((k:Int)-1)=(k:Int)-1:=cR (by omega);have dh:(Sort.siftDown bp k a 0 (e8 l a (a+k)).toArray).toList.length=l.length:=by rw[Array.length_toList,Im (k-0) k a 0 _ (Nat.le_refl _)];exact fx _ _ _
    simp only[yZ,e,am c,aA,c0,dP (show a+k<l.length by omega),dP (show a<l.length by omega),bQ,List.length_set,au,w];refine ⟨(k,(Sort.siftDown bp k a 0 (e8 l a (a+k)).toArray).toList),rfl,⟨by simp only[dh];omega,by simp only[dh];exact ad⟩,by simp,fun r az=> ?_⟩;rw[az];simp only[Array.toArray_toList];show _=Sum.inl ((Sort.heapPop bp a k (Sort.siftDown bp k a 0 (Sort.swp l.toArray a (a+k)))).toList,());rw[jQ]) (ab,m) ⟨by simp only;omega,by simp only;omega⟩ (by simp only;omega)
 subst k2;have fJ:i64.wrap ((ab:Int)-1)=(ab:Int)-1:=cR (by omega);have Of:MR ((a:Int),(0:Int),(ab:Int)-1,m,())=some (.inl ((Sort.heapPop bp a ab m.toArray).toList,())):=a1;have:Sort.heapSort bp l.toArray a b=Sort.heapPop bp a ab m.toArray:=by
  unfold Sort.heapSort;rw[iw,<-hm,Array.toArray_toList]
 rw[this];unfold EL;dsimp only;rw[gu,O9,kx,hm];dsimp only;rw[fJ,Of]
abbrev r1:Type:=(Int)×(Int)×(Int)×(List (ah))×Unit
abbrev fR (a i j:Nat) (l:List ah):r1:=((a:Int),(i:Int),(j:Int),l,())
theorem CS (p:ah->Bool) (d:Array ah) (j i:Nat):Sort.scanUp p d j i=if i<=j&&p d[i]! then Sort.scanUp p d j (i+1) else i:=by
 conv=>lhs;unfold Sort.scanUp
theorem K5 {b:r1->Option (r1⊕(r1⊕Unit))} (p:List ah->ah->Bool) (a j:Nat) (l:List ah) (aR:a<l.length) (ay:j<l.length) (ao:l.length<4611686018427387904)
  (ag: ∀i:Nat,b (fR a i j l)=bif decide ((i:Int)<=(j:Int)) then (bif decide ((0:Int)<=(i:Int))&&decide ((i:Int)<(l.length:Int)) then (bif p l (List.getD l i e7) then some (.inl ((a:Int),i64.wrap ((i:Int)+1),(j:Int),l,())) else some (.inr (.inl (fR a i j l)))) else none) else some (.inr (.inl (fR a i j l)))) (i:Nat):
  bM b (fR a i j l)=some (.inl (fR a (Sort.scanUp (p l) l.toArray j i) j l)):=by
 by_cases Nc:i<=j
 ·obtain ⟨r,aa,ad⟩:=li (b:=b) (fun i:Nat=>fR a i j l) (fun i=>j+1-i) (fun i=>i<=j+1) (fun i r=>r=.inl (fR a (Sort.scanUp (p l) l.toArray j i) j l))
   (fun i ab=>by
    simp only[ag];by_cases nk:i<=j
    ·have c:((i:Int)<=(j:Int)):=by omega
     have w:=fi (j:=i) (by omega);rw[am c,aA,dP (show i<l.length by omega),aA,w];cases aP:p l (List.getD l i e7)
     ·right;refine ⟨_,rfl,?_⟩;rw[CS,fC,aP];simp
     ·left;refine ⟨i+1,rfl,by omega,by omega,fun r az=> ?_⟩;rw[CS,fC,aP];simp only[nk,cK,b7,if_true];exact az
    ·right;have c: ¬((i:Int)<=(j:Int)):=by omega
     rw[bj c,aL];refine ⟨_,rfl,?_⟩;rw[CS];simp[nk]) i (by omega) (by omega)
  rw[aa,ad]
 ·have c: ¬((i:Int)<=(j:Int)):=by omega
  have bX:=ag i;rw[bj c,aL]at bX;have:Sort.scanUp (p l) l.toArray j i=i:=by rw[CS];simp[Nc]
  rw[this];exact lp (n:=1) (by rw[jM];omega) (by simp only[dR,bX])
theorem Ku {b:r1->Option (r1⊕(r1⊕Unit))} (p:List ah->ah->Bool) (a i:Nat) (l:List ah) (aR:a<l.length) (ao:l.length<4611686018427387904) (ab:1<=i)
  (ag: ∀j:Nat,b (fR a i j l)=bif decide ((i:Int)<=(j:Int)) then (bif decide ((0:Int)<=(j:Int))&&decide ((j:Int)<(l.length:Int)) then (bif p l (List.getD l j e7) then some (.inl ((a:Int),(i:Int),i64.wrap ((j:Int)-1),l,())) else some (.inr (.inl (fR a i j l)))) else none) else some (.inr (.inl (fR a i j l)))) (j:Nat) (ay:j<l.length):
  bM b (fR a i j l)=some (.inl (fR a i (Sort.scanDown (p l) l.toArray i j) l)):=by
 obtain ⟨r,aa,ad⟩:=li (b:=b) (fun j:Nat=>fR a i j l) (fun j=>j) (fun j=>j<l.length) (fun j r=>r=.inl (fR a i (Sort.scanDown (p l) l.toArray i j) l))
  (fun j ay=>by
   simp only[ag];cases j with
   |zero=>
    right;have c: ¬((i:Int)<=((0:Nat):Int)):=by omega
    rw[bj c,aL];exact ⟨_,rfl,rfl⟩
   |succ j=>
    by_cases nk:i<=j+1
    ·have c:((i:Int)<=((j+1:Nat):Int)):=by omega
     have w:=GR (j:=j) (by omega);rw[am c,aA,dP ay,aA,w];cases aP:p l (List.getD l (j+1) e7)
     ·right;refine ⟨_,rfl,?_⟩;unfold Sort.scanDown;rw[fC,aP];simp
     ·left;refine ⟨j,rfl,by omega,by omega,fun r az=> ?_⟩;rw[az]
      conv=>rhs;unfold Sort.scanDown
      rw[fC,aP];simp only[nk,cK,b7,if_true]
    ·right;have c: ¬((i:Int)<=((j+1:Nat):Int)):=by omega
     rw[bj c,aL];refine ⟨_,rfl,?_⟩;unfold Sort.scanDown;simp[nk]) j ay (by omega)
 rw[aa,ad]
section
variable {a i j:Nat} {l:List ah}
theorem agm (aR:a<l.length) (ay:j<l.length) (ao:l.length<4611686018427387904):L2 (fR a i j l)=some (.inl (fR a (Sort.scanUp (fun x=> !bp (l.toArray)[a]! x) l.toArray j i) j l)):=by
 rw[fC];exact K5 (b:=Ed) (fun l x=> !bp (List.getD l a e7) x) a j l aR ay ao (fun i=>by
  simp only[Ed,dP aR,aA,kQ,kJ,bQ]) i
theorem agn (aR:a<l.length) (ay:j<l.length) (ao:l.length<4611686018427387904) (ab:1<=i):L3 (fR a i j l)=some (.inl (fR a i (Sort.scanDown (fun x=>bp (l.toArray)[a]! x) l.toArray i j) l)):=by
 rw[fC];exact Ku (b:=Ee) (fun l x=>bp (List.getD l a e7) x) a i l aR ao ab (fun j=>by
  simp only[Ee,dP aR,aA,kQ,kJ,bQ]) j ay
theorem afN (aR:a<l.length) (ay:j<l.length) (ao:l.length<4611686018427387904):Mt (fR a i j l)=some (.inl (fR a (Sort.scanUp (fun x=>bp x (l.toArray)[a]!) l.toArray j i) j l)):=by
 rw[fC];exact K5 (b:=En) (fun l x=>bp x (List.getD l a e7)) a j l aR ay ao (fun i=>by
  simp only[En,dP aR,aA,kQ,kJ,bQ]) i
theorem afO (aR:a<l.length) (ay:j<l.length) (ao:l.length<4611686018427387904):Mv (fR a i j l)=some (.inl (fR a (Sort.scanUp (fun x=>bp x (l.toArray)[a]!) l.toArray j i) j l)):=by
 rw[fC];exact K5 (b:=Er) (fun l x=>bp x (List.getD l a e7)) a j l aR ay ao (fun i=>by
  simp only[Er,dP aR,aA,kQ,kJ,bQ]) i
theorem a12 (aR:a<l.length) (ay:j<l.length) (ao:l.length<4611686018427387904) (ab:1<=i):Mu (fR a i j l)=some (.inl (fR a i (Sort.scanDown (fun x=> !bp x (l.toArray)[a]!) l.toArray i j) l)):=by
 rw[fC];exact Ku (b:=Eo) (fun l x=> !bp x (List.getD l a e7)) a i l aR ao ab (fun j=>by
  simp only[Eo,dP aR,aA,kQ,kJ,bQ]) j ay
theorem afP (aR:a<l.length) (ay:j<l.length) (ao:l.length<4611686018427387904) (ab:1<=i):Mw (fR a i j l)=some (.inl (fR a i (Sort.scanDown (fun x=> !bp x (l.toArray)[a]!) l.toArray i j) l)):=by
 rw[fC];exact Ku (b:=Es) (fun l x=> !bp x (List.getD l a e7)) a i l aR ao ab (fun j=>by
  simp only[Es,dP aR,aA,kQ,kJ,bQ]) j ay
end
theorem amH: ∀(n a i j:Nat) (d:Array ah),j+1-i<=n->(Sort.partLoop bp a i j d).2.size=d.size/\(Sort.partLoop bp a i j d).1<=j:=by
 intro n
 induction n with
 |zero=>
  intro a i j d h;rw[Sort.partLoop_eq];have aa:=Sort.scanUp_ge (fun x=>bp x d[a]!) d j i;have ad:=Sort.scanDown_le (fun x=> !bp x d[a]!) d (Sort.scanUp (fun x=>bp x d[a]!) d j i) j;rw[if_pos (by omega)];exact ⟨rfl,ad⟩
 |succ n aO=>
  intro a i j d h;rw[Sort.partLoop_eq];have aa:=Sort.scanUp_ge (fun x=>bp x d[a]!) d j i;have ad:=Sort.scanDown_le (fun x=> !bp x d[a]!) d (Sort.scanUp (fun x=>bp x d[a]!) d j i) j;split
  ·exact ⟨rfl,ad⟩
  ·obtain ⟨al,aE⟩:=aO a (Sort.scanUp (fun x=>bp x d[a]!) d j i+1) (Sort.scanDown (fun x=> !bp x d[a]!) d (Sort.scanUp (fun x=>bp x d[a]!) d j i) j-1) (Sort.swp d (Sort.scanUp (fun x=>bp x d[a]!) d j i) (Sort.scanDown (fun x=> !bp x d[a]!) d (Sort.scanUp (fun x=>bp x d[a]!) d j i) j)) (by omega);rw[uC]at al;exact ⟨al,by omega⟩
theorem MF (i j:Nat):decide ((i:Int)>(j:Int))=decide (i>j):=by
 by_cases h:i>j
 ·rw[am h,am (by omega)]
 ·rw[bj h,bj (by omega)]
theorem afE (a:Nat) (vz:0<=a) (i j:Nat) (l:List ah) (aR:a<i) (ay:j<l.length) (nb:a<l.length) (ao:l.length<4611686018427387904):
  Eg (fR a i j l)=some (.inl (((Sort.partEqLoop bp a i j l.toArray).1:Int),(Sort.partEqLoop bp a i j l.toArray).2.toList,())):=by
 obtain ⟨r,aa,ad⟩:=li (b:=Ec) (fun q:Nat×Nat×List ah=>fR a q.1 q.2.1 q.2.2) (fun q=>q.2.1+1-q.1)
  (fun q=>a<q.1/\q.2.1<q.2.2.length/\a<q.2.2.length/\q.2.2.length<4611686018427387904)
  (fun q r=>r=.inl (((Sort.partEqLoop bp a q.1 q.2.1 q.2.2.toArray).1:Int),(Sort.partEqLoop bp a q.1 q.2.1 q.2.2.toArray).2.toList,()))
  (fun q aN=>by
   obtain ⟨i,j,l⟩:=q;obtain ⟨aR,ay,nb,ao⟩:=aN;simp only at aR ay nb ao;obtain ⟨i2,eY⟩: ∃x,Sort.scanUp (fun x=> !bp (l.toArray)[a]! x) l.toArray j i=x:=⟨_,rfl⟩;obtain ⟨dQ,fP⟩: ∃x,Sort.scanDown (fun x=>bp (l.toArray)[a]! x) l.toArray i2 j=x:=⟨_,rfl⟩;have g1:=Sort.scanUp_ge (fun x=> !bp (l.toArray)[a]! x) l.toArray j i;have g2:=Sort.scanDown_le (fun x=>bp (l.toArray)[a]! x) l.toArray i2 j;rw[eY]at g1;rw[fP]at g2;have ai:=agm (a:=a) (i:=i) (j:=j) (l:=l) nb ay ao;have aq:=agn (a:=a) (i:=i2) (j:=j) (l:=l) nb ay ao (by omega);rw[eY]at ai;rw[fP]at aq;have eq:=Sort.partEqLoop_eq bp a i j l.toArray;rw[eY,fP]at eq;simp only[Ec,ai,aq,MF i2 dQ];by_cases lg:i2>dQ
   ·right;rw[if_pos lg]at eq;rw[am lg,aA,eq];exact ⟨_,rfl,rfl⟩
   ·left;rw[if_neg lg,jQ]at eq;have cY:i64.wrap ((dQ:Int)-1)=((dQ-1:Nat):Int):=by rw[cR (by omega)];omega
    have c0:=fi (j:=i2) (by omega);rw[bj lg,aL];simp only[dP (show dQ<l.length by omega),dP (show i2<l.length by omega),aA,List.length_set,bQ,cY,c0];refine ⟨(i2+1,dQ-1,e8 l i2 dQ),rfl,⟨by simp only;omega,by simp only[fx];omega,by simp only[fx];omega,by simp only[fx];omega⟩,by simp only;omega,fun r az=> ?_⟩;rw[eq];exact az) (i,j,l) ⟨aR,ay,nb,ao⟩ (by simp only;omega)
 rw[show Eg (fR a i j l)=some r from aa,ad]
theorem afG (a:Nat) (i j:Nat) (l:List ah) (aR:a<i) (ay:j<l.length) (nb:a<l.length) (ao:l.length<4611686018427387904):
  Et (fR a i j l)=some (.inl ((a:Int),((Sort.partLoop bp a i j l.toArray).1:Int),(Sort.partLoop bp a i j l.toArray).2.toList,())):=by
 obtain ⟨r,aa,ad⟩:=li (b:=Ep) (fun q:Nat×Nat×List ah=>fR a q.1 q.2.1 q.2.2) (fun q=>q.2.1+1-q.1)
  (fun q=>a<q.1/\q.2.1<q.2.2.length/\a<q.2.2.length/\q.2.2.length<4611686018427387904)
  (fun q r=>r=.inl ((a:Int),((Sort.partLoop bp a q.1 q.2.1 q.2.2.toArray).1:Int),(Sort.partLoop bp a q.1 q.2.1 q.2.2.toArray).2.toList,()))
  (fun q aN=>by
   obtain ⟨i,j,l⟩:=q;obtain ⟨aR,ay,nb,ao⟩:=aN;simp only at aR ay nb ao;obtain ⟨i2,eY⟩: ∃x,Sort.scanUp (fun x=>bp x (l.toArray)[a]!) l.toArray j i=x:=⟨_,rfl⟩;obtain ⟨dQ,fP⟩: ∃x,Sort.scanDown (fun x=> !bp x (l.toArray)[a]!) l.toArray i2 j=x:=⟨_,rfl⟩;have g1:=Sort.scanUp_ge (fun x=>bp x (l.toArray)[a]!) l.toArray j i;have g2:=Sort.scanDown_le (fun x=> !bp x (l.toArray)[a]!) l.toArray i2 j;rw[eY]at g1;rw[fP]at g2;have ai:=afO (a:=a) (i:=i) (j:=j) (l:=l) nb ay ao;have aq:=afP (a:=a) (i:=i2) (j:=j) (l:=l) nb ay ao (by omega);rw[eY]at ai;rw[fP]at aq;have eq:=Sort.partLoop_eq bp a i j l.toArray;rw[eY,fP]at eq;simp only[Ep,ai,aq,MF i2 dQ];by_cases lg:i2>dQ
   ·right;rw[if_pos lg]at eq;rw[am lg,aA,eq];exact ⟨_,rfl,rfl⟩
   ·left;rw[if_neg lg,jQ]at eq;have cY:i64.wrap ((dQ:Int)-1)=((dQ-1:Nat):Int):=by rw[cR (by omega)];omega
    have c0:=fi (j:=i2) (by omega);rw[bj lg,aL];simp only[dP (show dQ<l.length by omega),dP (show i2<l.length by omega),aA,List.length_set,bQ,cY,c0];refine ⟨(i2+1,dQ-1,e8 l i2 dQ),rfl,⟨by simp only;omega,by simp only[fx];omega,by simp only[fx];omega,by simp only[fx];omega⟩,by simp only;omega,fun r az=> ?_⟩;rw[eq];exact az) (i,j,l) ⟨aR,ay,nb,ao⟩ (by simp only;omega)
 rw[show Et (fR a i j l)=some r from aa,ad]
theorem anE (a b p:Nat) (l:List ah) (fc:a<b) (aP:p<b) (ag:b<=l.length) (ao:l.length<4611686018427387904):
  y9 ((a:Int),(b:Int),(p:Int),l,())=some (((Sort.partitionEqual bp l.toArray a b p).1:Int),(Sort.partitionEqual bp l.toArray a b p).2.toList,()):=by
 have cY:=fi (j:=a) (by omega);have c0:i64.wrap ((b:Int)-1)=((b-1:Nat):Int):=by rw[cR (by omega)];omega
 have e:=afE a (Nat.zero_le _) (a+1) (b-1) (e8 l a p) (by omega) (by rw[fx];omega) (by rw[fx];omega) (by rw[fx];exact ao);unfold Sort.partitionEqual;rw[jQ]
 conv at e=>lhs;unfold e8
 simp only[y9,dP (show p<l.length by omega),dP (show a<l.length by omega),aA,List.length_set,bQ,cY,c0,e]
theorem afD (a b p:Nat) (l:List ah) (fc:a<b) (aP:p<b) (ag:b<=l.length) (ao:l.length<4611686018427387904):
  zc ((a:Int),(b:Int),(p:Int),l,())=some (((Sort.partition bp l.toArray a b p).1:Int),(Sort.partition bp l.toArray a b p).2.1,(Sort.partition bp l.toArray a b p).2.2.toList,()):=by
 have cY:=fi (j:=a) (by omega);have c0:i64.wrap ((b:Int)-1)=((b-1:Nat):Int):=by rw[cR (by omega)];omega
 obtain ⟨m,hm⟩: ∃m,e8 l a p=m:=⟨_,rfl⟩;have iO:m.length=l.length:=by rw[<-hm,fx]
 obtain ⟨i2,eY⟩: ∃x,Sort.scanUp (fun x=>bp x (m.toArray)[a]!) m.toArray (b-1) (a+1)=x:=⟨_,rfl⟩;obtain ⟨dQ,fP⟩: ∃x,Sort.scanDown (fun x=> !bp x (m.toArray)[a]!) m.toArray i2 (b-1)=x:=⟨_,rfl⟩;have g1:=Sort.scanUp_ge (fun x=>bp x (m.toArray)[a]!) m.toArray (b-1) (a+1);have g2:=Sort.scanDown_le (fun x=> !bp x (m.toArray)[a]!) m.toArray i2 (b-1);rw[eY]at g1;rw[fP]at g2;have ai:=afN (a:=a) (i:=a+1) (j:=b-1) (l:=m) (by omega) (by omega) (by omega);have aq:=a12 (a:=a) (i:=i2) (j:=b-1) (l:=m) (by omega) (by omega) (by omega) (by omega);rw[eY]at ai;rw[fP]at aq;have je:Sort.partition bp l.toArray a b p=if i2>dQ then (dQ,true,Sort.swp m.toArray dQ a) else ((Sort.partLoop bp a (i2+1) (dQ-1) (Sort.swp m.toArray i2 dQ)).1,false,Sort.swp (Sort.partLoop bp a (i2+1) (dQ-1) (Sort.swp m.toArray i2 dQ)).2 (Sort.partLoop bp a (i2+1) (dQ-1) (Sort.swp m.toArray i2 dQ)).1 a):=by
  unfold Sort.partition;rw[jQ,hm];simp only[eY,fP]
 rw[je];have zL:(l.set a (List.getD l p e7)).set p (List.getD l a e7)=m:=hm;simp only[zc,dP (show p<l.length by omega),dP (show a<l.length by omega),aA,List.length_set,bQ,cY,c0,zL,ai,aq,MF i2 dQ];by_cases lg:i2>dQ
 ·rw[am lg,aA,if_pos lg,jQ];simp only[dP (show a<m.length by omega),dP (show dQ<m.length by omega),aA,List.length_set,bQ];rfl
 ·rw[bj lg,aL,if_neg lg,jQ];have fJ:i64.wrap ((dQ:Int)-1)=((dQ-1:Nat):Int):=by rw[cR (by omega)];omega
  have jo:=fi (j:=i2) (by omega);have e:=afG a (i2+1) (dQ-1) (e8 m i2 dQ) (by omega) (by rw[fx];omega) (by rw[fx];omega) (by rw[fx];omega);obtain ⟨s1,s2⟩:=amH _ a (i2+1) (dQ-1) (e8 m i2 dQ).toArray (Nat.le_refl _);obtain ⟨R,kz⟩: ∃R,Sort.partLoop bp a (i2+1) (dQ-1) (e8 m i2 dQ).toArray=R:=⟨_,rfl⟩;rw[kz]at e s1 s2 ⊢;have gE:R.2.toList.length=l.length:=by rw[Array.length_toList,s1];show (e8 m i2 dQ).length=_;rw[fx,iO]
  conv at e=>lhs;unfold e8
  have NO:Sort.swp R.2 R.1 a=(e8 R.2.toList R.1 a).toArray:=by rw[<-jQ]
  rw[NO];simp only[dP (show dQ<m.length by omega),dP (show i2<m.length by omega),aA,List.length_set,bQ,fJ,jo,e,dP (show R.1<R.2.toList.length by omega),dP (show a<R.2.toList.length by omega)];rfl
theorem HW (d:Array ah) (b i:Nat):Sort.scanSorted bp d b i=if i<b&& !bp d[i]! d[i-1]! then Sort.scanSorted bp d b (i+1) else i:=by
 conv=>lhs;unfold Sort.scanSorted
theorem ak3: ∀(n b i:Nat) (d:Array ah),b-i<=n->i<=b->i<=Sort.scanSorted bp d b i/\Sort.scanSorted bp d b i<=b:=by
 intro n
 induction n with
 |zero=>
  intro b i d h ad;rw[HW];have: ¬i<b:=by omega
  simp only[this,decide_false,Bool.false_and,Bool.false_eq_true,if_false];omega
 |succ n aO=>
  intro b i d h ad;rw[HW];split
  ·rename_i aB;have a8:i<b:=by
    rw[bB,db]at aB;exact aB.1
   have:=aO b (i+1) d (by omega) (by omega);omega
  ·omega
theorem T8: ∀(j:Nat) (d:Array ah),(Sort.shiftDown bp j d).size=d.size
 |0,_=>rfl
 |j+1,d=>by
  unfold Sort.shiftDown;split
  ·rfl
  ·rw[T8 j,uC]
theorem JJ (b j:Nat) (d:Array ah):Sort.shiftUp bp b j d=if j<b then (if !bp d[j]! d[j-1]! then d else Sort.shiftUp bp b (j+1) (Sort.swp d j (j-1))) else d:=by
 conv=>lhs;unfold Sort.shiftUp
theorem alx: ∀(n b j:Nat) (d:Array ah),b-j<=n->(Sort.shiftUp bp b j d).size=d.size:=by
 intro n
 induction n with
 |zero=>
  intro b j d h;rw[JJ,if_neg (by omega)]
 |succ n aO=>
  intro b j d h;rw[JJ];split
  ·split
   ·rfl
   ·rw[aO _ _ _ (by omega),uC]
  ·rfl
theorem ago (a b s:Nat) (l:List ah) (ag:b<=l.length) (ao:l.length<4611686018427387904) (i:Nat) (ab:1<=i) (gV:i<=b):
  ci ((a:Int),(b:Int),(i:Int),(s:Int),l,())=some (.inl ((a:Int),(b:Int),((Sort.scanSorted bp l.toArray b i:Nat):Int),(s:Int),l,())):=by
 obtain ⟨r,aa,ad⟩:=li (b:=yQ) (fun i:Nat=>((a:Int),(b:Int),(i:Int),(s:Int),l,())) (fun i=>b-i) (fun i=>1<=i/\i<=b)
  (fun i r=>r=.inl ((a:Int),(b:Int),((Sort.scanSorted bp l.toArray b i:Nat):Int),(s:Int),l,()))
  (fun i ab=>by
   obtain ⟨aa,ad⟩:=ab;rw[HW,fC,fC];by_cases gV:i<b
   ·have c:((i:Int)<(b:Int)):=by omega
    have w:i64.wrap ((i:Int)-1)=((i-1:Nat):Int):=by rw[cR (by omega)];omega
    have c0:=fi (j:=i) (by omega);simp only[yQ,am c,aA,dP (show i<l.length by omega),w,c0,dP (show i-1<l.length by omega),kQ,kJ,bQ];cases a8:bp (List.getD l i e7) (List.getD l (i-1) e7)
    ·left;refine ⟨i+1,rfl,by omega,by omega,fun r az=> ?_⟩;simp only[gV,cK,dr,b7,if_true];exact az
    ·right;refine ⟨_,rfl,?_⟩;simp
   ·right;have c: ¬((i:Int)<(b:Int)):=by omega
    simp only[yQ,bj c,aL];refine ⟨_,rfl,?_⟩;simp[gV]) i ⟨ab,gV⟩ (by omega)
 rw[show ci ((a:Int),(b:Int),(i:Int),(s:Int),l,())=some r from aa,ad]
theorem agp (a b i s:Nat) (j:Nat) (l:List ah) (ay:j<l.length) (ao:l.length<4611686018427387904):
  Ei ((a:Int),(b:Int),(i:Int),(s:Int),(j:Int),l,())=some (.inl ((a:Int),(b:Int),(i:Int),(s:Int),(Sort.shiftDown bp j l.toArray).toList,())):=by
 obtain ⟨r,aa,ad⟩:=li (b:=yR) (fun q:Nat×List ah=>((a:Int),(b:Int),(i:Int),(s:Int),(q.1:Int),q.2,())) (fun q=>q.1) (fun q=>q.1<q.2.length/\q.2.length<4611686018427387904)
  (fun q r=>r=.inl ((a:Int),(b:Int),(i:Int),(s:Int),(Sort.shiftDown bp q.1 q.2.toArray).toList,()))
  (fun q aN=>by
   obtain ⟨j,l⟩:=q;obtain ⟨ay,ao⟩:=aN;simp only at ay ao;cases j with
   |zero=>
    right;refine ⟨_,?_,rfl⟩;have c: ¬(((0:Nat):Int)>=1):=by omega
    simp only[yR,bj c,aL];rfl
   |succ j=>
    have c:(((j+1:Nat):Int)>=1):=by omega
    have w:=GR (j:=j) (by omega);simp only[yR,am c,aA,dP ay,w,dP (show j<l.length by omega),kQ,kJ,bQ,List.length_set];cases a8:bp (List.getD l (j+1) e7) (List.getD l j e7)
    ·right;refine ⟨_,rfl,?_⟩;unfold Sort.shiftDown;rw[fC,fC,a8];rfl
    ·left;refine ⟨(j,e8 l (j+1) j),rfl,⟨by simp only[fx];omega,by simp only[fx];exact ao⟩,by simp,fun r az=> ?_⟩;rw[az];have:Sort.shiftDown bp (j+1) l.toArray=Sort.shiftDown bp j (e8 l (j+1) j).toArray:=by
      conv=>lhs;unfold Sort.shiftDown
      rw[fC,fC,a8,jQ];rfl
     simp only[this]) (j,l) ⟨ay,ao⟩ (by simp only;omega)
 rw[show Ei ((a:Int),(b:Int),(i:Int),(s:Int),(j:Int),l,())=some r from aa,ad]
theorem agq (a b i s:Nat) (j:Nat) (l:List ah) (ay:1<=j) (zG:j<=b+1) (ag:b<=l.length) (ao:l.length<4611686018427387904):
  Ej ((a:Int),(b:Int),(i:Int),(s:Int),(j:Int),l,())=some (.inl ((a:Int),(b:Int),(i:Int),(s:Int),(Sort.shiftUp bp b j l.toArray).toList,())):=by
 obtain ⟨r,aa,ad⟩:=li (b:=yS) (fun q:Nat×List ah=>((a:Int),(b:Int),(i:Int),(s:Int),(q.1:Int),q.2,())) (fun q=>b-q.1) (fun q=>1<=q.1/\q.1<=b+1/\b<=q.2.length/\q.2.length<4611686018427387904)
  (fun q r=>r=.inl ((a:Int),(b:Int),(i:Int),(s:Int),(Sort.shiftUp bp b q.1 q.2.toArray).toList,()))
  (fun q aN=>by
   obtain ⟨j,l⟩:=q;obtain ⟨ay,zG,ag,ao⟩:=aN;simp only at ay zG ag ao;have hu:=JJ b j l.toArray;rw[fC,fC,jQ]at hu;by_cases a8:j<b
   ·have c:((j:Int)<(b:Int)):=by omega
    have w:i64.wrap ((j:Int)-1)=((j-1:Nat):Int):=by rw[cR (by omega)];omega
    have c0:=fi (j:=j) (by omega);rw[if_pos a8]at hu;simp only[yS,am c,aA,dP (show j<l.length by omega),w,c0,dP (show j-1<l.length by omega),kQ,kJ,bQ,List.length_set];cases aB:bp (List.getD l j e7) (List.getD l (j-1) e7)
    ·right;refine ⟨_,rfl,?_⟩;rw[aB]at hu;rw[hu];rfl
    ·left;rw[aB]at hu;refine ⟨(j+1,e8 l j (j-1)),rfl,⟨by simp only;omega,by simp only;omega,by simp only[fx];exact ag,by simp only[fx];exact ao⟩,by simp only;omega,fun r az=> ?_⟩;rw[az,hu];rfl
   ·right;have c: ¬((j:Int)<(b:Int)):=by omega
    rw[if_neg a8]at hu;simp only[yS,bj c,aL,hu];exact ⟨_,rfl,rfl⟩) (j,l) ⟨ay,zG,ag,ao⟩ (by simp only;omega)
 rw[show Ej ((a:Int),(b:Int),(i:Int),(s:Int),(j:Int),l,())=some r from aa,ad]
theorem am7 (a b:Nat) (l:List ah) (fc:a<b) (ag:b<=l.length) (ao:l.length<4611686018427387904):
  yG ((a:Int),(b:Int),l,())=some ((Sort.partialInsertionSort bp l.toArray a b).2,(Sort.partialInsertionSort bp l.toArray a b).1.toList,()):=by
 obtain ⟨r,aa,ad⟩:=li (b:=bv) (fun q:Nat×Nat×List ah=>((a:Int),(b:Int),(q.2.1:Int),((5-q.1:Nat):Int),q.2.2,())) (fun q=>q.1)
  (fun q=>q.1<=5/\a+1<=q.2.1/\q.2.1<=b/\b<=q.2.2.length/\q.2.2.length<4611686018427387904)
  (fun q r=>r=.inl ((Sort.partialIns bp a b q.1 q.2.1 q.2.2.toArray).2,(Sort.partialIns bp a b q.1 q.2.1 q.2.2.toArray).1.toList,())\/((Sort.partialIns bp a b q.1 q.2.1 q.2.2.toArray).2=false/\r=.inr ((Sort.partialIns bp a b q.1 q.2.1 q.2.2.toArray).1.toList,())))
  (fun q aN=>by
   obtain ⟨k,i,l⟩:=q;obtain ⟨av,ab,gV,ag,ao⟩:=aN;simp only at av ab gV ag ao;cases k with
   |zero=>
    right;refine ⟨_,?_,.inr ⟨rfl,rfl⟩⟩;have c: ¬(((5-0:Nat):Int)<5):=by omega
    simp only[bv,bj c,aL];rfl
   |succ k=>
    have c:(((5-(k+1):Nat):Int)<5):=by omega
    have ws:i64.wrap (((5-(k+1):Nat):Int)+1)=((5-k:Nat):Int):=by rw[cR (by omega)];omega
    have ai:=ago a b (5-(k+1)) l ag ao i (by omega) gV;obtain ⟨i2,eY⟩: ∃x,Sort.scanSorted bp l.toArray b i=x:=⟨_,rfl⟩;have g:=ak3 _ b i l.toArray (Nat.le_refl _) gV;rw[eY]at ai g;have je:Sort.partialIns bp a b (k+1) i l.toArray=if i2=b then (l.toArray,true) else if b-a<50 then (l.toArray,false) else
      Sort.partialIns bp a b k i2 (if b-i2>=2 then Sort.shiftUp bp b (i2+1) (if i2-a>=2 then Sort.shiftDown bp (i2-1) (e8 l i2 (i2-1)).toArray else (e8 l i2 (i2-1)).toArray) else (if i2-a>=2 then Sort.shiftDown bp (i2-1) (e8 l i2 (i2-1)).toArray else (e8 l i2 (i2-1)).toArray)):=by
     rw[<-jQ]
     conv=>lhs;unfold Sort.partialIns
     simp only[eY]
    rw[je];simp only[bv,am c,aA,ai];by_cases dB:i2=b
    ·right;have aY:((i2:Int)=(b:Int)):=by omega
     rw[am aY,aA,if_pos dB];exact ⟨_,rfl,.inl rfl⟩
    ·have aY: ¬((i2:Int)=(b:Int)):=by omega
     have gu:i64.wrap ((b:Int)-(a:Int))=((b-a:Nat):Int):=by rw[cR (by omega)];omega
     rw[bj aY,aL,if_neg dB,gu];by_cases MG:b-a<50
     ·right;have c3:(((b-a:Nat):Int)<50):=by omega
      rw[am c3,aA,if_pos MG];exact ⟨_,rfl,.inl rfl⟩
     ·left;have c3: ¬(((b-a:Nat):Int)<50):=by omega
      have cY:i64.wrap ((i2:Int)-1)=((i2-1:Nat):Int):=by rw[cR (by omega)];omega
      have c0:i64.wrap ((i2:Int)-(a:Int))=((i2-a:Nat):Int):=by rw[cR (by omega)];omega
      have fJ:i64.wrap ((b:Int)-(i2:Int))=((b-i2:Nat):Int):=by rw[cR (by omega)];omega
      have jo:=fi (j:=i2) (by omega);rw[bj c3,aL,if_neg MG];have half: ∀m:List ah,m.length=l.length->
        ∃cr:List ah,yP ((a:Int),(b:Int),(i2:Int),((5-(k+1):Nat):Int),m,())=some (.inl ((a:Int),(b:Int),(i2:Int),((5-k:Nat):Int),cr,()))/\cr.length=l.length/\
         cr.toArray=(if b-i2>=2 then Sort.shiftUp bp b (i2+1) m.toArray else m.toArray):=by
       intro m hm;by_cases ad:b-i2>=2
       ·have c5:(((b-i2:Nat):Int)>=2):=by omega
        have bb:=agq a b i2 (5-(k+1)) (i2+1) m (by omega) (by omega) (by omega) (by omega);refine ⟨(Sort.shiftUp bp b (i2+1) m.toArray).toList,?_,?_,?_⟩
        ·simp only[yP,fJ,am c5,aA,jo,bb,ws]
        ·rw[Array.length_toList,alx _ _ _ _ (Nat.le_refl _)];exact hm
        ·rw[if_pos ad,Array.toArray_toList]
       ·have c5: ¬(((b-i2:Nat):Int)>=2):=by omega
        refine ⟨m,?_,hm,by rw[if_neg ad]⟩;simp only[yP,fJ,bj c5,aL,ws]
      simp only[cY,c0,dP (show i2-1<l.length by omega),dP (show i2<l.length by omega),aA,bQ,List.length_set];have NO:(l.set i2 (List.getD l (i2-1) e7)).set (i2-1) (List.getD l i2 e7)=e8 l i2 (i2-1):=rfl;rw[NO];by_cases ad:i2-a>=2
      ·have fb:(((i2-a:Nat):Int)>=2):=by omega
       have aq:=agp a b i2 (5-(k+1)) (i2-1) (e8 l i2 (i2-1)) (by rw[fx];omega) (by rw[fx];exact ao);obtain ⟨cr,f1,f2,f3⟩:=half (Sort.shiftDown bp (i2-1) (e8 l i2 (i2-1)).toArray).toList (by rw[Array.length_toList,T8];exact fx _ _ _);rw[am fb,aA];simp only[aq,f1];refine ⟨(k,i2,cr),rfl,⟨by simp only;omega,by simp only;omega,by simp only;omega,by simp only;omega,by simp only;omega⟩,by simp,fun r az=> ?_⟩;rw[if_pos ad];simp only[f3,Array.toArray_toList]at az;exact az
      ·have fb: ¬(((i2-a:Nat):Int)>=2):=by omega
       obtain ⟨cr,f1,f2,f3⟩:=half (e8 l i2 (i2-1)) (fx _ _ _);rw[bj fb,aL];simp only[f1];refine ⟨(k,i2,cr),rfl,⟨by simp only;omega,by simp only;omega,by simp only;omega,by simp only;omega,by simp only;omega⟩,by simp,fun r az=> ?_⟩;rw[if_neg ad];simp only[f3]at az;exact az) (5,a+1,l) ⟨by simp,by simp,by simp only;omega,ag,ao⟩ (by simp)
 have w:=fi (j:=a) (by omega);have dc:LN ((a:Int),(b:Int),((a+1:Nat):Int),(0:Int),l,())=some r:=aa;unfold yG;dsimp only;rw[w,dc];rcases ad with rfl |⟨al,rfl⟩
 ·rfl
 ·have al:(Sort.partialInsertionSort bp l.toArray a b).2=false:=al;rw[al];rfl
theorem Ko (a b:Nat) (l:List ah) (s:Int) (aR:a<l.length) (ag:b<l.length):
  ∃x y:Nat,∃gd:Int,vh ((a:Int),(b:Int),l,s,())=some ((x:Int),(y:Int),l,gd,())/\((x=a/\y=b)\/(x=b/\y=a)):=by
 simp only[vh,dP ag,dP aR,aA,bQ,kQ,kJ];cases bp (List.getD l b e7) (List.getD l a e7)
 ·exact ⟨a,b,_,rfl,.inl ⟨rfl,rfl⟩⟩
 ·exact ⟨b,a,_,rfl,.inr ⟨rfl,rfl⟩⟩
theorem XR (a b c:Nat) (l:List ah) (s:Int) (aR:a<l.length) (ag:b<l.length) (aB:c<l.length):
  ∃x:Nat,∃gd:Int,zb ((a:Int),(b:Int),(c:Int),l,s,())=some ((x:Int),l,gd,())/\(x=a\/x=b\/x=c):=by
 obtain ⟨mb,hq,s1,ai,aa⟩:=Ko a b l s aR ag;obtain ⟨mS,GU,s2,aq,ad⟩:=Ko hq c l s1 (by omega) aB;obtain ⟨rN,y3,gE,bb,al⟩:=Ko mb mS l s2 (by omega) (by omega);simp only[zb,ai,aq,bb];exact ⟨y3,_,rfl,by omega⟩
theorem Km (a:Nat) (l:List ah) (s:Int) (aR:1<=a) (ag:a+1<l.length) (ao:l.length<4611686018427387904):
  ∃x:Nat,∃gd:Int,vd ((a:Int),l,s,())=some ((x:Int),l,gd,())/\a-1<=x/\x<=a+1:=by
 have cY:i64.wrap ((a:Int)-1)=((a-1:Nat):Int):=by rw[cR (by omega)];omega
 have c0:=fi (j:=a) (by omega);obtain ⟨x,gd,e,h⟩:=XR (a-1) a (a+1) l s (by omega) (by omega) ag;simp only[vd,cY,c0,e];exact ⟨x,_,rfl,by omega,by omega⟩
theorem Q2 (n:Nat) (h:n<4611686018427387904):i64.wrap (Int.tdiv (n:Int) 4)=((n/4:Nat):Int):=by
 have aq:Int.tdiv ((n:Nat):Int) 4=((n/4:Nat):Int):=by
  rw[Int.tdiv_eq_ediv_of_nonneg (by omega)];omega
 rw[aq,cR (by omega)]
theorem apc (a b:Nat) (l:List ah) (fc:a+12<b) (ag:b<=l.length) (ao:l.length<4611686018427387904):
  ∃x:Nat,∃h:Int,EI ((a:Int),(b:Int),l,())=some ((x:Int),h,l,())/\a<=x/\x<b:=by
 have gu:i64.wrap ((b:Int)-(a:Int))=((b-a:Nat):Int):=by rw[cR (by omega)];omega
 obtain ⟨n,aQ⟩: ∃n,b-a=n:=⟨_,rfl⟩;rw[aQ]at gu;have q:=Q2 n (by omega);have ai: ∀k:Nat,k<=3->i64.wrap ((a:Int)+i64.wrap (((n/4:Nat):Int)*(k:Int)))=((a+n/4*k:Nat):Int):=by
  intro k av;have jg:n/4*k<=n:=by
   have:n/4*k<=n/4*3:=Nat.mul_le_mul_left _ av;omega
  have e:((n/4:Nat):Int)*(k:Int)=((n/4*k:Nat):Int):=by rw[Int.natCast_mul]
  rw[e,cR (x:=((n/4*k:Nat):Int)) (by omega),cR (by omega)];omega
 have f1:i64.wrap ((a:Int)+i64.wrap (((n/4:Nat):Int)*1))=((a+n/4*1:Nat):Int):=ai 1 (by omega);have f2:i64.wrap ((a:Int)+i64.wrap (((n/4:Nat):Int)*2))=((a+n/4*2:Nat):Int):=ai 2 (by omega);have f3:i64.wrap ((a:Int)+i64.wrap (((n/4:Nat):Int)*3))=((a+n/4*3:Nat):Int):=ai 3 (by omega);have sz:((n:Int)>=8):=by omega
 have fin: ∀(i j k:Nat) (s:Int),a<=i->a<=j->a<=k->i<b->j<b->k<b-> ∃x:Nat,∃h:Int,EB ((i:Int),(j:Int),(k:Int),l,s,())=some ((x:Int),h,l,())/\a<=x/\x<b:=by
  intro i j k s aa ad al aE aZ bt;obtain ⟨x,gd,e,h⟩:=XR i j k l s (by omega) (by omega) (by omega);simp only[EB,e];cases decide (gd=0)
  ·cases decide (gd=12)
   ·exact ⟨x,_,rfl,by omega,by omega⟩
   ·exact ⟨x,_,rfl,by omega,by omega⟩
  ·exact ⟨x,_,rfl,by omega,by omega⟩
 simp only[EI,gu,q,f1,f2,f3,am sz,aA];by_cases MG:n>=50
 ·have LI:((n:Int)>=50):=by omega
  obtain ⟨mb,s1,g1,g2,g3⟩:=Km (a+n/4*1) l 0 (by omega) (by omega) ao;obtain ⟨mS,s2,a1,k2,b5⟩:=Km (a+n/4*2) l s1 (by omega) (by omega) ao;obtain ⟨rN,gE,c2,cr,ey⟩:=Km (a+n/4*3) l s2 (by omega) (by omega) ao;simp only[am LI,aA,g1,a1,c2];exact fin mb mS rN gE (by omega) (by omega) (by omega) (by omega) (by omega) (by omega)
 ·have LI: ¬((n:Int)>=50):=by omega
  simp only[bj LI,aL];exact fin _ _ _ 0 (by omega) (by omega) (by omega) (by omega) (by omega) (by omega)
theorem aiG (i j:Nat) (d:Array ah):Sort.reverseLoop i j d=if i<j then Sort.reverseLoop (i+1) (j-1) (Sort.swp d i j) else d:=by
 conv=>lhs;unfold Sort.reverseLoop
theorem ana (a b:Nat) (l:List ah) (fc:a<b) (ag:b<=l.length) (ao:l.length<4611686018427387904):
  yX ((a:Int),(b:Int),l,())=some ((Sort.reverseRange l.toArray a b).toList,()):=by
 obtain ⟨r,aa,ad⟩:=li (b:=y5) (fun q:Nat×Nat×List ah=>((q.1:Int),(q.2.1:Int),q.2.2,())) (fun q=>q.2.1-q.1) (fun q=>q.1<=q.2.2.length/\q.2.1<q.2.2.length/\q.2.2.length<4611686018427387904)
  (fun q r=>r=.inl ((Sort.reverseLoop q.1 q.2.1 q.2.2.toArray).toList,()))
  (fun q aN=>by
   obtain ⟨i,j,l⟩:=q;obtain ⟨ab,ay,ao⟩:=aN;simp only at ab ay ao;have hu:=aiG i j l.toArray;rw[jQ]at hu;by_cases a8:i<j
   ·left;have c:((i:Int)<(j:Int)):=by omega
    have cY:i64.wrap ((j:Int)-1)=((j-1:Nat):Int):=by rw[cR (by omega)];omega
    have c0:=fi (j:=i) (by omega);rw[if_pos a8]at hu;simp only[y5,am c,aA,dP ay,dP (show i<l.length by omega),bQ,List.length_set,cY,c0];refine ⟨(i+1,j-1,e8 l i j),rfl,⟨by simp only[fx];omega,by simp only[fx];omega,by simp only[fx];exact ao⟩,by simp only;omega,fun r az=> ?_⟩;rw[az,hu]
   ·right;have c: ¬((i:Int)<(j:Int)):=by omega
    rw[if_neg a8]at hu;simp only[y5,bj c,aL,hu];exact ⟨_,rfl,rfl⟩) (a,b-1,l) ⟨by simp only;omega,by simp only;omega,ao⟩ (by simp only;omega)
 have w:i64.wrap ((b:Int)-1)=((b-1:Nat):Int):=by rw[cR (by omega)];omega
 have dc:Mf ((a:Int),((b-1:Nat):Int),l,())=some r:=aa;unfold yX;dsimp only;rw[w,dc,ad];rfl
def ZB (k n:Nat):Bool:=match vY ((n:Int),(k:Int),()) with
 |some (v,_)=>decide ((k:Int)<=v)&&decide (v<=(k+8:Nat))&&(decide (n=0)||decide (2^(v-k).toNat<=2*n))
 |none=>false
theorem aod:((List.range 8).all fun k=>(List.range 256).all (ZB (8*k)))=true:=by kernel_rfl
theorem afY (n:Nat) (h:n<256) (k:Nat) (av:k<8): ∃v:Nat,vY ((n:Int),((8*k:Nat):Int),())=some (((8*k+v:Nat):Int),())/\(n≠0->2^v<=2*n)/\v<=8:=by
 have aa:=List.all_eq_true.1 (List.all_eq_true.1 aod k (List.mem_range.2 av)) n (List.mem_range.2 h);unfold ZB at aa;cases e:vY ((n:Int),((8*k:Nat):Int),()) with
 |none=>rw[e]at aa;cases aa
 |some r=>
  obtain ⟨v,u⟩:=r;rw[e]at aa;have aa:(decide (((8*k:Nat):Int)<=v)&&decide (v<=(8*k+8:Nat))&&(decide (n=0)||decide (2^(v-((8*k:Nat):Int)).toNat<=2*n)))=true:=aa;rw[bB,bB,Bool.or_eq_true,db,db,db,db]at aa;obtain ⟨⟨ad,al⟩,aE⟩:=aa;refine ⟨(v-((8*k:Nat):Int)).toNat,?_,fun aQ=>aE.resolve_left aQ,by omega⟩;have:((8*k+(v-((8*k:Nat):Int)).toNat:Nat):Int)=v:=by omega
  rw[this]
theorem KD (n k:Nat) (av:k<=64):Int.fdiv (n:Int) (2^(min (Int.toNat (k:Int)) IntKind.u64.bits))=((n/2^k:Nat):Int):=by
 have:min (Int.toNat (k:Int)) IntKind.u64.bits=k:=by
  show min k 64=k;omega
 rw[this,Int.fdiv_eq_ediv_of_nonneg _ (by exact Int.le_of_lt (Int.pow_pos (by omega)))];rw[Int.natCast_ediv,Int.natCast_pow];rfl
theorem ZC (n:Nat) (h:n<4611686018427387904) (bX:n≠0): ∃v:Nat,pi ((n:Int),())=some ((v:Int),())/\2^v<=2*n/\v<=64:=by
 have shift: ∀(m k s v:Nat),2^v<=2^(k+s)*(2*(m/2^s))->2^v<=2^k*(2*m):=by
  intro m k s v aX;refine Nat.le_trans aX ?_;rw[Nat.pow_add,Nat.mul_assoc];have aa:2^s*(m/2^s)<=m:=Nat.mul_div_le m (2^s);have ad:2^s*(2*(m/2^s))=2*(2^s*(m/2^s)):=by rw[Nat.mul_left_comm]
  rw[ad];exact Nat.mul_le_mul_left _ (by omega)
 have dC: ∀(m k:Nat),m≠0->m<256->k<8-> ∃v:Nat,vY ((m:Int),((8*k:Nat):Int),())=some ((v:Int),())/\2^v<=2^(8*k)*(2*m)/\v<=8*k+8:=by
  intro m k bX hm av;obtain ⟨v,e,aa,ad⟩:=afY m hm k av;refine ⟨8*k+v,e,?_,by omega⟩;rw[Nat.pow_add];exact Nat.mul_le_mul_left _ (aa bX)
 have b6: ∀(m k:Nat),m≠0->m<65536->k<7-> ∃v:Nat,FH ((m:Int),((8*k:Nat):Int),())=some ((v:Int),())/\2^v<=2^(8*k)*(2*m)/\v<=8*k+16:=by
  intro m k bX hm av;unfold FH;dsimp only;by_cases aa:m>=256
  ·have c:((m:Int)>=256):=by omega
   have w:i64.wrap (((8*k:Nat):Int)+8)=((8*(k+1):Nat):Int):=by rw[cR (by omega)];omega
   have d:=KD m 8 (by omega);have d:Int.fdiv (m:Int) (2^(min (Int.toNat (8:Int)) IntKind.u64.bits))=((m/2^8:Nat):Int):=d;obtain ⟨v,e,ad,al⟩:=dC (m/2^8) (k+1) (by omega) (by omega) (by omega);rw[am c,aA,d,w,e];exact ⟨v,rfl,shift m (8*k) 8 v ad,by omega⟩
  ·have c: ¬((m:Int)>=256):=by omega
   obtain ⟨v,e,ad,al⟩:=dC m k bX (by omega) (by omega);rw[bj c,aL,e];exact ⟨v,rfl,ad,by omega⟩
 have fv: ∀(m k:Nat),m≠0->m<4294967296->k<5-> ∃v:Nat,vX ((m:Int),((8*k:Nat):Int),())=some ((v:Int),())/\2^v<=2^(8*k)*(2*m)/\v<=8*k+32:=by
  intro m k bX hm av;unfold vX;dsimp only;by_cases aa:m>=65536
  ·have c:((m:Int)>=65536):=by omega
   have w:i64.wrap (((8*k:Nat):Int)+16)=((8*(k+2):Nat):Int):=by rw[cR (by omega)];omega
   have d:Int.fdiv (m:Int) (2^(min (Int.toNat (16:Int)) IntKind.u64.bits))=((m/2^16:Nat):Int):=KD m 16 (by omega);obtain ⟨v,e,ad,al⟩:=b6 (m/2^16) (k+2) (by omega) (by omega) (by omega);rw[am c,aA,d,w,e];exact ⟨v,rfl,shift m (8*k) 16 v ad,by omega⟩
  ·have c: ¬((m:Int)>=65536):=by omega
   obtain ⟨v,e,ad,al⟩:=b6 m k bX (by omega) (by omega);rw[bj c,aL,e];exact ⟨v,rfl,ad,by omega⟩
 unfold pi Pp;dsimp only;by_cases aa:n>=4294967296
 ·have c:((n:Int)>=4294967296):=by omega
  have d:Int.fdiv (n:Int) (2^(min (Int.toNat (32:Int)) IntKind.u64.bits))=((n/2^32:Nat):Int):=KD n 32 (by omega);obtain ⟨v,e,ad,al⟩:=fv (n/2^32) 4 (by omega) (by omega) (by omega);have e:vX (((n/2^32:Nat):Int),(32:Int),())=some ((v:Int),()):=e;rw[am c,aA,d,e];refine ⟨v,rfl,?_,by omega⟩;have:=shift n 0 32 v ad;simpa using this
 ·have c: ¬((n:Int)>=4294967296):=by omega
  obtain ⟨v,e,ad,al⟩:=fv n 0 bX (by omega) (by omega);have e:vX ((n:Int),(0:Int),())=some ((v:Int),()):=e;rw[bj c,aL,e];refine ⟨v,rfl,?_,by omega⟩;simpa using ad
theorem anH (l m:List ah) (a b i j:Nat) (h:Sort.PermIn a b l.toArray m.toArray) (ab:a<=i/\i<b) (ay:a<=j/\j<b) (ag:b<=m.length):Sort.PermIn a b l.toArray (e8 m i j).toArray:=by
 rw[<-jQ];exact Sort.permIn_trans _ _ _ a b h (Sort.swp_permIn _ a b i j ab.1 ab.2 ay.1 ay.2 (by simpa using ag))
theorem aoA (a b:Nat) (l:List ah) (fc:a+12<b) (ag:b<=l.length) (ao:l.length<4611686018427387904):
  ∃m:List ah,d9 ((a:Int),(b:Int),l,())=some (m,())/\Sort.PermIn a b l.toArray m.toArray:=by
 have gu:i64.wrap ((b:Int)-(a:Int))=((b-a:Nat):Int):=by rw[cR (by omega)];omega
 obtain ⟨n,aQ⟩: ∃n,b-a=n:=⟨_,rfl⟩;rw[aQ]at gu;have q:=Q2 n (by omega);have sz:((n:Int)>=8):=by omega
 obtain ⟨v,ev,aX,NV⟩:=ZC n (by omega) (by omega);have hu:IntKind.u64.wrap (n:Int)=(n:Int):=by
  show (n:Int)%2^64=_;omega
 have aP:2^v<9223372036854775808:=by omega
 have sQ:1<=2^v:=Nat.one_le_two_pow;have m9:Fv ((n:Int),())=some (((2^v:Nat):Int),()):=by
  have c: ¬((v:Int)<0):=by omega
  have Nr:min (Int.toNat (v:Int)) IntKind.u64.bits=v:=by
   show min v 64=v;omega
  simp only[Fv,hu,ev,bj c,aL,Nr];have e:(1:Int)*2^v=((2^v:Nat):Int):=by rw[Int.one_mul,Int.natCast_pow];rfl
  rw[e];have:IntKind.u64.wrap ((2^v:Nat):Int)=((2^v:Nat):Int):=by
   show ((2^v:Nat):Int)%2^64=_;omega
  rw[this]
 have aq:i64.wrap ((a:Int)+i64.wrap (((n/4:Nat):Int)*2))=((a+n/4*2:Nat):Int):=by
  have e:((n/4:Nat):Int)*2=((n/4*2:Nat):Int):=by omega
  rw[e,cR (x:=((n/4*2:Nat):Int)) (by omega),cR (by omega)];omega
 have fJ:i64.wrap (((a+n/4*2:Nat):Int)-1)=((a+n/4*2-1:Nat):Int):=by rw[cR (by omega)];omega
 have jo:i64.wrap (((a+n/4*2:Nat):Int)+1)=((a+n/4*2+1:Nat):Int):=by rw[cR (by omega)];omega
 obtain ⟨r,aa,m,rfl,avn,hK⟩:=li (b:=y0) (fun q:Nat×List ah×Int=>((a:Int),(n:Int),((2^v:Nat):Int),(q.1:Int),q.2.1,q.2.2,())) (fun q=>b-q.1)
  (fun q=>a<=q.1/\q.1<=a+n/4*2+2/\q.2.1.length=l.length/\Sort.PermIn a b l.toArray q.2.1.toArray)
  (fun q r=> ∃m:List ah,r=.inl (m,())/\m.length=l.length/\Sort.PermIn a b l.toArray m.toArray)
  (fun q aN=>by
   obtain ⟨i,m,avF⟩:=q;obtain ⟨aa,ad,al,aE⟩:=aN;simp only at aa ad al aE;by_cases ab:i<=a+n/4*2+1
   ·left;have c:((i:Int)<=((a+n/4*2+1:Nat):Int)):=by omega
    have GQ:=fi (j:=i) (by omega);have auw:IntKind.u64.wrap (((2^v:Nat):Int)-1)=((2^v-1:Nat):Int):=by
     show (((2^v:Nat):Int)-1)%2^64=_;omega
    have fin: ∀(o:Nat) (OL:Int),o<n-> ∃t:Nat×List ah×Int,Eb ((a:Int),(n:Int),((2^v:Nat):Int),(i:Int),(o:Int),m,OL,())=some (.inl ((a:Int),(n:Int),((2^v:Nat):Int),(t.1:Int),t.2.1,t.2.2,()))/\
      (a<=t.1/\t.1<=a+n/4*2+2/\t.2.1.length=l.length/\Sort.PermIn a b l.toArray t.2.1.toArray)/\b-t.1<b-i/\ ∀r:(List ah×Unit)⊕Unit,(∃m:List ah,r=.inl (m,())/\m.length=l.length/\Sort.PermIn a b l.toArray m.toArray)->(∃m:List ah,r=.inl (m,())/\m.length=l.length/\Sort.PermIn a b l.toArray m.toArray):=by
     intro o OL an;have wo:=Bu (i:=a) (j:=o) (by omega);simp only[Eb,wo,dP (show a+o<m.length by omega),dP (show i<m.length by omega),aA,bQ,List.length_set,GQ];refine ⟨(i+1,e8 m i (a+o),OL),rfl,⟨by simp only;omega,by simp only;omega,by simp only[fx];exact al,anH l m a b i (a+o) aE ⟨aa,by omega⟩ ⟨by omega,by omega⟩ (by omega)⟩,by simp only;omega,fun r az=>az⟩
    simp only[y0,q,aq,jo,am c,aA,OK,auw];generalize IntKind.u64.wrap ((BitVec.ofInt IntKind.u64.bits _ ^^^ BitVec.ofInt IntKind.u64.bits (IntKind.u64.wrap (_*2^(min (Int.toNat (17:Int)) IntKind.u64.bits)))).toNat:Int)=R;obtain ⟨o,an⟩: ∃o:Nat,(BitVec.ofInt IntKind.u64.bits R &&& BitVec.ofInt IntKind.u64.bits ((2^v-1:Nat):Int)).toNat=o:=⟨_,rfl⟩;have cP:o<=2^v-1:=by
     rw[<-an,BitVec.toNat_and];refine Nat.le_trans Nat.and_le_right ?_;rw[BitVec.toNat_ofInt];show ((((2^v-1:Nat):Int)%((2^64:Nat):Int)).toNat)<=_;omega
    rw[an];have auz:IntKind.u64.wrap (o:Int)=(o:Int):=by
     show (o:Int)%2^64=_;omega
    have auy:i64.wrap (o:Int)=(o:Int):=cR (by omega);rw[auz,auy];by_cases aq8:o>=n
    ·have aY:((o:Int)>=(n:Int)):=by omega
     have Pa:i64.wrap ((o:Int)-(n:Int))=((o-n:Nat):Int):=by rw[cR (by omega)];omega
     rw[am aY,aA,Pa];exact fin (o-n) R (by omega)
    ·have aY: ¬((o:Int)>=(n:Int)):=by omega
     rw[bj aY,aL];exact fin o R (by omega)
   ·right;have c: ¬((i:Int)<=((a+n/4*2+1:Nat):Int)):=by omega
    simp only[y0,q,aq,jo,bj c,aL];exact ⟨_,rfl,m,rfl,al,aE⟩) (a+n/4*2-1,l,(n:Int)) ⟨by simp only;omega,by simp only;omega,rfl,Sort.permIn_refl _ a b⟩ (by simp only;omega)
 have dc:Mn ((a:Int),(n:Int),((2^v:Nat):Int),((a+n/4*2-1:Nat):Int),l,(n:Int),())=some (.inl (m,())):=aa;refine ⟨m,?_,hK⟩;simp only[d9,gu,am sz,aA,hu,m9,q,aq,fJ,dc]
def p3 (a b:Nat) (l m:List ah):Prop:=Sort.PermIn a b l.toArray m.toArray/\Sort.SortedIn bp a b m.toArray
theorem PermIn.len {a b:Nat} {l m:List ah} (h:Sort.PermIn a b l.toArray m.toArray):m.length=l.length:=by simpa using h.1
abbrev rU:Type:=((Int)×(Int)×(Int)×(List (ah))×Unit)->Option ((List (ah))×Unit)
abbrev Hf:Type:=(Int)×(Int)×(Int)×(Bool)×(Bool)×(List (ah))×Unit
def qj (r:rU) (N:Nat):Prop:= ∀(a b:Nat) (lim:Int) (l:List ah),a<=b->b<=l.length->l.length<4611686018427387904->b-a<N->Sort.Below bp a b l.toArray->
 ∃m,r ((a:Int),(b:Int),lim,l,())=some (m,())/\p3 a b l m
structure Next (a b:Nat) (l:List ah) (s:Hf):Prop where
 ex: ∃(bc bJ:Nat) (lim:Int) (gR wp:Bool) (m:List ah),s=((bc:Int),(bJ:Int),lim,gR,wp,m,())/\bc<=bJ/\bJ<=m.length/\m.length=l.length/\Sort.Below bp bc bJ m.toArray/\bJ-bc<b-a/\ ∀x,p3 bc bJ m x->p3 a b l x
theorem Next.pre {a b:Nat} {l m:List ah} {s:Hf} (h:Next a b m s) (aP:Sort.PermIn a b l.toArray m.toArray):Next a b l s:=by
 obtain ⟨bc,bJ,lim,gR,wp,x,aa,ad,al,aE,aZ,bt,dn⟩:=h.ex;exact ⟨bc,bJ,lim,gR,wp,x,aa,ad,al,aE.trans (PermIn.len aP),aZ,bt,fun y bf=>⟨Sort.permIn_trans _ _ _ a b aP (dn y bf).1,(dn y bf).2⟩⟩
theorem afd (r:rU) (a b N p:Nat) (lim len:Int) (l:List ah) (az:qj r N) (ky:b-a<=N) (sQ:a<=p) (lk:p<b) (ag:b<=l.length) (ao:l.length<4611686018427387904) (cG:Sort.Below bp a b l.toArray):
  ∃s,oM r ((a:Int),(b:Int),lim,len,(p:Int),l,())=some (.inl s)/\Next a b l s:=by
 have e:=afD a b p l (by omega) lk ag ao;obtain ⟨hO,ap,d4,aw⟩: ∃hO ap d4,Sort.partition bp l.toArray a b p=(hO,ap,d4):=⟨_,_,_,rfl⟩;obtain ⟨m,rfl⟩: ∃m:List ah,d4=m.toArray:=⟨d4.toList,by simp⟩;obtain ⟨aa,ad,al,aE,aZ,bt,dn⟩:=Sort.round_part yC (Sort.partition_holds bp) sQ lk (by simpa using ag) cG aw;have iO:m.length=l.length:=by simpa using al
 rw[aw]at e;have e:zc ((a:Int),(b:Int),(p:Int),l,())=some ((hO:Int),ap,m,()):=e;have cY:i64.wrap ((hO:Int)-(a:Int))=((hO-a:Nat):Int):=by rw[cR (by omega)];omega
 have c0:i64.wrap ((b:Int)-(hO:Int))=((b-hO:Nat):Int):=by rw[cR (by omega)];omega
 have fJ:=fi (j:=hO) (by omega);simp only[oM,e,cY,c0,fJ];by_cases aB:hO-a<b-hO
 ·have c:(((hO-a:Nat):Int)<((b-hO:Nat):Int)):=by omega
  obtain ⟨L,f1,f2,f3⟩:=az a hO lim m aa (by omega) (by omega) (by omega) aE;obtain ⟨a1,k2⟩:=bt L.toArray f2 f3;rw[am c,aA,f1];have ML:L.length=l.length:=(PermIn.len f2).trans iO;exact ⟨_,rfl,⟨hO+1,b,_,_,_,L,rfl,by omega,by omega,ML,a1,by omega,fun x aw=>k2 x.toArray aw.1 aw.2⟩⟩
 ·have c: ¬(((hO-a:Nat):Int)<((b-hO:Nat):Int)):=by omega
  obtain ⟨L,f1,f2,f3⟩:=az (hO+1) b lim m (by omega) (by omega) (by omega) (by omega) aZ;obtain ⟨a1,k2⟩:=dn L.toArray f2 f3;rw[bj c,aL,f1];have ML:L.length=l.length:=(PermIn.len f2).trans iO;exact ⟨_,rfl,⟨a,hO,_,_,_,L,rfl,by omega,by omega,ML,a1,by omega,fun x aw=>k2 x.toArray aw.1 aw.2⟩⟩
theorem afc (r:rU) (a b N p:Nat) (lim len:Int) (gR wp:Bool) (l:List ah) (az:qj r N) (ky:b-a<=N) (sQ:a<=p) (lk:p<b) (ag:b<=l.length) (ao:l.length<4611686018427387904) (cG:Sort.Below bp a b l.toArray):
  ∃s,(km r ((a:Int),(b:Int),lim,gR,wp,len,(p:Int),l,())=some (.inl s)\/km r ((a:Int),(b:Int),lim,gR,wp,len,(p:Int),l,())=some (.inr s))/\Next a b l s:=by
 obtain ⟨s,g1,g2⟩:=afd r a b N p lim len l az ky sQ lk ag ao cG;by_cases aR:a>0
 ·have c:((a:Int)>0):=by omega
  have cY:i64.wrap ((a:Int)-1)=((a-1:Nat):Int):=by rw[cR (by omega)];omega
  simp only[km,am c,aA,cY,dP (show a-1<l.length by omega),dP (show p<l.length by omega),bQ,kQ,kJ];cases a8:bp (List.getD l (a-1) e7) (List.getD l p e7)
  ·have e:=anE a b p l (by omega) lk ag ao;obtain ⟨hO,d4,aw⟩: ∃hO d4,Sort.partitionEqual bp l.toArray a b p=(hO,d4):=⟨_,_,rfl⟩;obtain ⟨m,rfl⟩: ∃m:List ah,d4=m.toArray:=⟨d4.toList,by simp⟩;have gN:bp (l.toArray)[a-1]! (l.toArray)[p]! =false:=by rw[fC,fC];exact a8
   obtain ⟨aa,ad,al,aE,aZ⟩:=Sort.round_eq yC (Sort.partitionEqual_holds bp) aR sQ lk (by simpa using ag) cG gN aw;have iO:m.length=l.length:=by simpa using al
   rw[aw]at e;have e:y9 ((a:Int),(b:Int),(p:Int),l,())=some ((hO:Int),m,()):=e;simp only[nJ,dr,aA,e];exact ⟨_,.inr rfl,⟨hO,b,_,_,_,m,rfl,by omega,by omega,iO,aE,by omega,fun x aw=>aZ x.toArray aw.1 aw.2⟩⟩
  ·simp only[nJ,dt,aL,g1];exact ⟨_,.inl rfl,g2⟩
 ·have c: ¬((a:Int)>0):=by omega
  simp only[km,bj c,aL,nJ,g1];exact ⟨_,.inl rfl,g2⟩
def D5 (a b:Nat) (l:List ah) (x:Option (Hf⊕(((List (ah))×Unit)⊕(Unit)))):Prop:=
 (∃s,x=some (.inl s)/\Next a b l s)\/(∃m,x=some (.inr (.inl (m,())))/\p3 a b l m)
theorem Q9 (r:rU) (a b N p:Nat) (lim len hint:Int) (gR wp:Bool) (l:List ah) (az:qj r N) (ky:b-a<=N) (sQ:a<=p) (lk:p<b) (ag:b<=l.length) (ao:l.length<4611686018427387904) (cG:Sort.Below bp a b l.toArray):
  D5 a b l (Em r ((a:Int),(b:Int),lim,gR,wp,len,(p:Int),hint,l,())):=by
 have flag: ∀f:Bool,(∃m,lF r ((a:Int),(b:Int),lim,gR,wp,len,(p:Int),f,l,())=some (.inl ((a:Int),(b:Int),lim,gR,wp,len,(p:Int),m,()))/\Sort.PermIn a b l.toArray m.toArray)\/
   (∃m,lF r ((a:Int),(b:Int),lim,gR,wp,len,(p:Int),f,l,())=some (.inr (m,()))/\p3 a b l m):=by
  intro f;cases f with
  |false=>
   left;exact ⟨l,by simp only[lF,aL],Sort.permIn_refl _ a b⟩
  |true=>
   have e:=am7 a b l (by omega) ag ao;obtain ⟨aa,ad⟩:=Sort.partialInsertionSort_holds (lt:=bp) yC l.toArray a b (by omega) (by simpa using ag) cG;obtain ⟨d,f2,aw⟩: ∃d f2,Sort.partialInsertionSort bp l.toArray a b=(d,f2):=⟨_,_,rfl⟩;obtain ⟨m,rfl⟩: ∃m:List ah,d=m.toArray:=⟨d.toList,by simp⟩;rw[aw]at e aa ad;have e:yG ((a:Int),(b:Int),l,())=some (f2,m,()):=e;simp only[lF,aA,e];cases f2 with
   |true=>exact .inr ⟨m,rfl,aa,ad rfl⟩
   |false=>exact .inl ⟨m,rfl,aa⟩
 have go: ∀m,Sort.PermIn a b l.toArray m.toArray-> ∃s,(km r ((a:Int),(b:Int),lim,gR,wp,len,(p:Int),m,())=some (.inl s)\/km r ((a:Int),(b:Int),lim,gR,wp,len,(p:Int),m,())=some (.inr s))/\Next a b l s:=by
  intro m hm;have iO:=PermIn.len hm;obtain ⟨s,aa,ad⟩:=afc r a b N p lim len gR wp m az ky sQ lk (by omega) (by omega) (cG.perm (by simpa using ag) hm);exact ⟨s,aa,ad.pre hm⟩
 unfold Em;dsimp only;have fin: ∀f:Bool,D5 a b l (match lF r ((a:Int),(b:Int),lim,gR,wp,len,(p:Int),f,l,()) with
   |none=>none
   |some (.inl aH)=>
    match km r (aH.1,aH.2.1,aH.2.2.1,aH.2.2.2.1,aH.2.2.2.2.1,aH.2.2.2.2.2.1,aH.2.2.2.2.2.2.1,aH.2.2.2.2.2.2.2.1,()) with
    |none=>none
    |some (.inl z2)=>
     some (.inl (z2.1,z2.2.1,z2.2.2.1,z2.2.2.2.1,z2.2.2.2.2.1,z2.2.2.2.2.2.1,()))
    |some (.inr z2)=>
     some (.inl (z2.1,z2.2.1,z2.2.2.1,z2.2.2.2.1,z2.2.2.2.2.1,z2.2.2.2.2.2.1,()))
   |some (.inr aH)=>
    some (.inr (.inl (aH.1,())))):=by
  intro f;rcases flag f with ⟨m,e,hm⟩|⟨m,e,hm⟩
  ·rw[e];obtain ⟨s,aa |aa,ad⟩:=go m hm
   ·dsimp only;rw[aa];exact .inl ⟨s,rfl,ad⟩
   ·dsimp only;rw[aa];exact .inl ⟨s,rfl,ad⟩
  ·rw[e];exact .inr ⟨m,rfl,hm⟩
 cases gR with
 |false=>exact fin false
 |true=>
  cases wp with
  |false=>exact fin false
  |true=>exact fin _
theorem Q8 (r:rU) (a b N:Nat) (lim len:Int) (gR wp:Bool) (l:List ah) (az:qj r N) (ky:b-a<=N) (fc:a+12<b) (ag:b<=l.length) (ao:l.length<4611686018427387904) (cG:Sort.Below bp a b l.toArray):
  D5 a b l (El r ((a:Int),(b:Int),lim,gR,wp,len,l,())):=by
 obtain ⟨p,h,e,aa,ad⟩:=apc a b l fc ag ao;simp only[El,e];cases aB:decide (h=2)
 ·simp only[aL];exact Q9 r a b N p lim len h gR wp l az ky aa ad ag ao cG
 ·have aq:=ana a b l (by omega) ag ao;have aP:=Sort.reverseRange_holds l.toArray a b (by omega) (by simpa using ag);obtain ⟨m,hm⟩: ∃m:List ah,Sort.reverseRange l.toArray a b=m.toArray:=⟨(Sort.reverseRange l.toArray a b).toList,by simp⟩;rw[hm]at aq aP;have iO:=PermIn.len aP;have aq:yX ((a:Int),(b:Int),l,())=some (m,()):=aq;have cY:i64.wrap ((b:Int)-1)=((b-1:Nat):Int):=by rw[cR (by omega)];omega
  have c0:i64.wrap ((p:Int)-(a:Int))=((p-a:Nat):Int):=by rw[cR (by omega)];omega
  have fJ:i64.wrap (((b-1:Nat):Int)-((p-a:Nat):Int))=((b-1-(p-a):Nat):Int):=by rw[cR (by omega)];omega
  simp only[aA,aq,cY,c0,fJ];have:=Q9 r a b N (b-1-(p-a)) lim len 1 gR wp m az ky (by omega) (by omega) (by omega) (by omega) (cG.perm (by simpa using ag) aP);rcases this with ⟨s,a1,k2⟩|⟨x,a1,k2⟩
  ·exact .inl ⟨s,a1,k2.pre aP⟩
  ·exact .inr ⟨x,a1,Sort.permIn_trans _ _ _ a b aP k2.1,k2.2⟩
theorem agf (r:rU) (a b N:Nat) (lim:Int) (gR wp:Bool) (l:List ah) (az:qj r N) (ky:b-a<=N) (fc:a<=b) (ag:b<=l.length) (ao:l.length<4611686018427387904) (cG:Sort.Below bp a b l.toArray):
  D5 a b l (vk r ((a:Int),(b:Int),lim,gR,wp,l,())):=by
 have gu:i64.wrap ((b:Int)-(a:Int))=((b-a:Nat):Int):=by rw[cR (by omega)];omega
 unfold vk;dsimp only;rw[gu];by_cases au4:b-a<=12
 ·have c:(((b-a:Nat):Int)<=12):=by omega
  rw[am c,aA,alO a b l ag ao fc];have:=Sort.insertionSort_holds (lt:=bp) yC l.toArray a b fc (by simpa using ag);refine .inr ⟨(Sort.insertionSort bp l.toArray a b).toList,rfl,?_⟩;unfold p3;rw[Array.toArray_toList];exact this
 ·have c: ¬(((b-a:Nat):Int)<=12):=by omega
  rw[bj c,aL];cases avk:decide (lim=0)
  ·rw[aL];cases gR with
   |true=>
    simp only[dt,aL];exact Q8 r a b N lim _ true wp l az ky (by omega) ag ao cG
   |false=>
    obtain ⟨m,e,aP⟩:=aoA a b l (by omega) ag ao;have iO:=PermIn.len aP;simp only[dr,aA,e];have:=Q8 r a b N (i64.wrap (lim-1)) ((b-a:Nat):Int) false wp m az ky (by omega) (by omega) (by omega) (cG.perm (by simpa using ag) aP);rcases this with ⟨s,a1,k2⟩|⟨x,a1,k2⟩
    ·exact .inl ⟨s,a1,k2.pre aP⟩
    ·exact .inr ⟨x,a1,Sort.permIn_trans _ _ _ a b aP k2.1,k2.2⟩
  ·rw[aA,afs a b l (by omega) ag ao];have:=Sort.heapSort_holds (lt:=bp) yC l.toArray a b fc (by simpa using ag);refine .inr ⟨(Sort.heapSort bp l.toArray a b).toList,rfl,?_⟩;unfold p3;rw[Array.toArray_toList];exact this
theorem afJ (r:rU) (N:Nat) (az:qj r N) (ky:N<4611686018427387904):qj (yW r) (N+1):=by
 intro a b lim l fc ag ao aQ cG;obtain ⟨x,aa,m,rfl,ad⟩:=li (b:=vk r) (fun q:Nat×Nat×Int×Bool×Bool×List ah=>((q.1:Int),(q.2.1:Int),q.2.2.1,q.2.2.2.1,q.2.2.2.2.1,q.2.2.2.2.2,())) (fun q=>q.2.1-q.1)
  (fun q=>q.1<=q.2.1/\q.2.1<=q.2.2.2.2.2.length/\q.2.2.2.2.2.length<4611686018427387904/\q.2.1-q.1<=N/\Sort.Below bp q.1 q.2.1 q.2.2.2.2.2.toArray)
  (fun q x=> ∃m,x=.inl (m,())/\p3 q.1 q.2.1 q.2.2.2.2.2 m)
  (fun q aN=>by
   obtain ⟨a,b,lim,gR,wp,l⟩:=q;obtain ⟨aa,ad,al,aE,aZ⟩:=aN;simp only at aa ad al aE aZ;rcases agf r a b N lim gR wp l az aE aa ad al aZ with ⟨s,a1,k2⟩|⟨x,a1,k2⟩
   ·left;obtain ⟨bc,bJ,ar0,auu,auA,m,rfl,c2,cr,ey,ka,oa,ac8⟩:=k2.ex;exact ⟨(bc,bJ,ar0,auu,auA,m),a1,⟨c2,cr,by simp only;omega,by simp only;omega,ka⟩,oa,fun x ⟨y,bf,au⟩=>⟨y,bf,ac8 y au⟩⟩
   ·right;exact ⟨_,a1,x,rfl,k2⟩) (a,b,lim,true,true,l) ⟨fc,ag,ao,by simp only;omega,cG⟩ (by simp only;omega)
 have dc:EG r ((a:Int),(b:Int),lim,true,true,l,())=some (.inl (m,())):=aa;exact ⟨m,by simp only[yW,dc],ad⟩
theorem ao1: ∀N:Nat,N<4611686018427387904-> ∀n,N<=n->qj (Eu n) N:=by
 intro N
 induction N with
 |zero=>
  intro _ n _ a b lim l _ _ _ h _;omega
 |succ N aO=>
  intro ky n aQ;obtain ⟨n,rfl⟩: ∃k,n=k+1:=⟨n-1,by omega⟩;exact afJ _ N (aO (by omega) n (by omega)) (by omega)
def QR (l:List ah):Prop:=l.Pairwise fun a b=>Op.bytesLess b.1 a.1=false
theorem aon (l:List ah) (ao:l.length<1000000000000): ∃m,EF (l,())=some (m,())/\m.Perm l/\QR m:=by
 have hu:IntKind.u64.wrap (l.length:Int)=(l.length:Int):=by
  show (l.length:Int)%2^64=_;omega
 obtain ⟨v,aX⟩: ∃v,pi ((l.length:Int),())=some (v,()):=by
  by_cases bX:l.length=0
  ·rw[bX];exact ⟨0,by rfl⟩
  ·obtain ⟨v,e,-⟩:=ZC l.length (by omega) bX;exact ⟨_,e⟩
 obtain ⟨m,e,aP,au⟩:=ao1 (l.length+1) (by omega) jV (by rw[jM];omega) 0 l.length v l (Nat.zero_le _) (Nat.le_refl _) (by omega) (by omega) (.inl rfl);have e:Oe ((0:Int),(l.length:Int),v,l,())=some (m,()):=e;have iO:=PermIn.len aP;refine ⟨m,by simp only[EF,hu,aX,e],?_,?_⟩
 ·have:=aP.2.2;have ai:(m.toArray.extract 0 l.length).toList=m:=by rw[<-iO];simp
  have aq:(l.toArray.extract 0 l.length).toList=l:=by simp
  rw[ai,aq]at this;exact this
 ·refine List.pairwise_iff_getElem.2 fun i j ab ay nk=> ?_
  have:=au i j (Nat.zero_le _) nk (by omega);rw[fC,fC,cn ab,cn ay]at this;exact this
def bE (x:ah):Bool:= !hW x
theorem J8 (x:ah):j0 (x,())=some (!bE x,()):=by
 rw[Bc];unfold bE;simp
def di (L:List ah) (x:ak):Bool:=L.any fun s=>bU s x.1
theorem amx (W:List ah) (p:ah) (ao:W.length<=100000000000000000):yL (W,p,())=some (W.any (fun w=>iD w p),W,p,()):=by
 obtain ⟨z,aa,ad⟩:=bi (b:=yO) (fun i (_:Unit)=>((W.length:Int),(i:Int),W,p,())) W.length (fun i _=>(W.take i).any (fun w=>iD w p)=false) (fun z=>(z=.inr (W,p,())/\W.any (fun w=>iD w p)=false)\/(∃i:Nat,z=.inl ((i:Int),W,p,())/\W.any (fun w=>iD w p)=true)) (by omega)
  (fun i ab _ aN=>by
   have ai:=gw (i:=i) (l:=W) (by omega);have aq:=fm i;have bb:=fK i (by omega);simp only[yO,ai,aq,aA,b7,bQ,cn ab,OM,CB,Bc,JW,Bool.not_not,bb];cases h:iD W[i] p
   ·refine .inl ⟨(),?_,rfl⟩;rw[eZ ab,List.any_append,aN];simp[h]
   ·exact .inr ⟨_,.inr ⟨i,rfl,List.any_eq_true.2 ⟨_,List.getElem_mem ab,h⟩⟩,rfl⟩)
  (fun _ aN=>by
   have ai:=hy W;rw[List.take_length]at aN;exact ⟨_,.inl ⟨rfl,aN⟩,by simp only[yO,ai,aL]⟩) () rfl
 have dc:L1 ((W.length:Int),0,W,p,())=some z:=aa;rcases ad with ⟨rfl,al⟩|⟨i,rfl,al⟩
 ·simp only[yL,EA,dc,al];rfl
 ·have e:(decide ((i:Int)>=(0:Int)))=true:=am (by omega);simp only[yL,EA,dc,al,e]
theorem amw (W:List ah) (p:ak) (ao:W.length<=100000000000000000):yK (W,p,())=some (W.any (fun w=>bU w p.1),p,()):=by
 obtain ⟨z,aa,ad⟩:=bi (b:=yN) (fun i (_:Unit)=>(W,(W.length:Int),(i:Int),p,())) W.length (fun i _=>(W.take i).any (fun w=>bU w p.1)=false) (fun z=>(z=.inr (p,())/\W.any (fun w=>bU w p.1)=false)\/(∃i:Nat,z=.inl ((i:Int),p,())/\W.any (fun w=>bU w p.1)=true)) (by omega)
  (fun i ab _ aN=>by
   have ai:=gw (i:=i) (l:=W) (by omega);have aq:=fm i;have bb:=fK i (by omega);simp only[yN,ai,aq,aA,b7,bQ,cn ab,PC,Dp,bb];cases h:bU W[i] p.1
   ·refine .inl ⟨(),?_,rfl⟩;rw[eZ ab,List.any_append,aN];simp[h]
   ·exact .inr ⟨_,.inr ⟨i,rfl,List.any_eq_true.2 ⟨_,List.getElem_mem ab,h⟩⟩,rfl⟩)
  (fun _ aN=>by
   have ai:=hy W;rw[List.take_length]at aN;exact ⟨_,.inl ⟨rfl,aN⟩,by simp only[yN,ai,aL]⟩) () rfl
 have dc:L0 (W,(W.length:Int),0,p,())=some z:=aa;rcases ad with ⟨rfl,al⟩|⟨i,rfl,al⟩
 ·simp only[yK,Ez,dc,al];rfl
 ·have e:(decide ((i:Int)>=(0:Int)))=true:=am (by omega);simp only[yK,Ez,dc,al,e]
theorem JG (x:ak) (L:List ah) (lK:L.length<=100000000000000000):A8 (x,L,())=some (!di L x,L,()):=by
 simp only[A8,amw L x lK];rfl
theorem afu (l:List ah) (ao:l.length<=1000000000000):
  (vc (l,())=some ((-1:Int),l,())/\l.filter bE=l)\/ ∃i:Nat,i<l.length/\vc (l,())=some ((i:Int),l,())/\(l.take (i+1)).filter bE=l.take i:=by
 obtain ⟨z,aa,ad⟩:=bi (b:=yM) (fun i (_:Unit)=>((l.length:Int),(i:Int),l,())) l.length (fun i _=>(l.take i).filter bE=l.take i) (fun z=>(z=.inr (l,())/\l.filter bE=l)\/(∃i:Nat,i<l.length/\z=.inl ((i:Int),l,())/\(l.take (i+1)).filter bE=l.take i)) (by omega)
  (fun i ab _ aN=>by
   have ai:=gw (i:=i) (l:=l) (by omega);have aq:=fm i;have bb:=fK i (by omega);simp only[yM,ai,aq,aA,b7,bQ,cn ab,J8,Bool.not_not,bb];cases aU:bE l[i]
   ·refine .inr ⟨_,.inr ⟨i,ab,rfl,?_⟩,rfl⟩;rw[eZ ab,List.filter_append,aN];simp[aU]
   ·refine .inl ⟨(),?_,rfl⟩;rw[eZ ab,List.filter_append,aN];simp[aU])
  (fun _ aN=>by
   have ai:=hy l;rw[List.take_length]at aN;exact ⟨_,.inl ⟨rfl,aN⟩,by simp only[yM,ai,aL]⟩) () rfl
 have dc:LZ ((l.length:Int),0,l,())=some z:=aa;rcases ad with ⟨rfl,al⟩|⟨i,ab,rfl,al⟩
 ·exact .inl ⟨by simp only[vc,dc],al⟩
 ·exact .inr ⟨i,ab,by simp only[vc,dc],al⟩
theorem aoE (l:List ah) (ao:l.length<=1000000000000):yV (l,())=some (l.filter bE,()):=by
 rcases afu l ao with ⟨aa,ad⟩|⟨i0,Nc,aa,ad⟩
 ·have e:(decide ((-1:Int)=(-1:Int)))=true:=rfl;simp only[yV,aa,cK,aA,ad]
 ·have e:(decide ((i0:Int)=(-1:Int)))=false:=bj (by omega);have gu:=fK i0 (by omega);have hlen: ∀j,((l.take j).filter bE).length<=j:=fun j=>Nat.le_trans (List.length_filter_le _ _) (by rw[List.length_take];omega)
  obtain ⟨z,g1,g2⟩:=bi (b:=vb) (fun k (s:List ah)=>(((((l.take (i0+1+k)).filter bE).length:Nat):Int),((i0+1+k:Nat):Int),s,())) (l.length-(i0+1))
   (fun k s=>s.length=l.length/\s.take ((l.take (i0+1+k)).filter bE).length=(l.take (i0+1+k)).filter bE/\s.drop (i0+1+k)=l.drop (i0+1+k)/\((l.take (i0+1+k)).filter bE).length<i0+1+k)
   (fun z=> ∃s:List ah,z=.inl ((((l.filter bE).length:Nat):Int),s,())/\s.length=l.length/\s.take (l.filter bE).length=l.filter bE) (by omega)
   (fun k av s au=>by
    left;obtain ⟨s1,s2,gE,kd⟩:=au;obtain ⟨j,ay⟩: ∃j,i0+1+k=j:=⟨_,rfl⟩;rw[show i0+1+(k+1)=j+1 by omega];rw[ay]at s2 gE kd ⊢;have nY:j<l.length:=by omega
    have pd:j<s.length:=by omega
    have zU:s[j]=l[j]:=by
     have en:=List.drop_eq_getElem_cons pd;have a2:=List.drop_eq_getElem_cons nY;rw[gE,a2]at en;exact (List.cons.inj en).1.symm
    have zx:s.drop (j+1)=l.drop (j+1):=by
     have en:=List.drop_eq_getElem_cons pd;have a2:=List.drop_eq_getElem_cons nY;rw[gE,a2]at en;exact (List.cons.inj en).2.symm
    have ai:=gw (i:=j) (l:=s) (by omega);have aq:=fm j;have bb:=fK j (by omega);obtain ⟨c,aB⟩: ∃c,((l.take j).filter bE).length=c:=⟨_,rfl⟩;have aqm:c<=j:=by rw[<-aB];exact hlen j
    have pn:(l.take (j+1)).filter bE=(l.take j).filter bE++[l[j]].filter bE:=by rw[eZ nY,List.filter_append]
    cases aU:bE l[j] with
    |false=>
     have lV:(l.take (j+1)).filter bE=(l.take j).filter bE:=by rw[pn];simp[aU]
     refine ⟨s,⟨s1,by rw[lV];exact s2,zx,by rw[lV];omega⟩,?_⟩;rw[lV];simp only[vb,ai,aq,aA,b7,bQ,cn pd,zU,J8,aU,dr,dt,aL,bb]
    |true=>
     have lV:(l.take (j+1)).filter bE=(l.take j).filter bE++[l[j]]:=by rw[pn];simp[aU]
     have gM:((l.take (j+1)).filter bE).length=c+1:=by rw[lV,List.length_append,aB];rfl
     rw[aB]at s2 kd;have bx:=fm c;have c9:(decide ((c:Int)<((List.length s):Int)))=true:=am (by omega);have cV:=fK c (by omega);refine ⟨s.set c l[j],⟨by rw[List.length_set];exact s1,?_,?_,?_⟩,?_⟩
     ·rw[gM,lV];have jD:c<(s.set c l[j]).length:=by rw[List.length_set];omega
      rw[eZ jD,List.take_set_of_le (Nat.le_refl _),s2];simp
     ·rw[List.drop_set_of_lt (by omega)];exact zx
     ·rw[gM];omega
     ·rw[gM,aB];simp only[vb,ai,aq,bx,c9,aA,b7,bQ,cn pd,zU,J8,aU,dt,dr,bb,cV])
   (fun s au=>by
    obtain ⟨s1,s2,gE,kd⟩:=au;rw[show i0+1+(l.length-(i0+1))=l.length by omega]at s2 gE kd ⊢;rw[List.take_length]at s2 kd ⊢;have ai:(decide (((l.length:Nat):Int)<((List.length s):Int)))=false:=bj (by omega);exact ⟨_,⟨s,rfl,s1,s2⟩,by simp only[vb,ai,aL]⟩) l (by
    refine ⟨rfl,?_,rfl,?_⟩
    ·rw[Nat.add_zero,ad,List.length_take,Nat.min_eq_left (by omega)]
    ·rw[Nat.add_zero,ad,List.length_take];omega)
  obtain ⟨s,rfl,s1,s2⟩:=g2;have fF:((((l.take (i0+1+0)).filter bE).length:Nat):Int)=(i0:Int):=by rw[Nat.add_zero,ad,List.length_take,Nat.min_eq_left (by omega)]
  have kx:Me ((i0:Int),((i0+1:Nat):Int),l,())=some (.inl ((((l.filter bE).length:Nat):Int),s,())):=by
   rw[<-fF];exact g1
  have lN:(l.filter bE).length<=l.length:=List.length_filter_le _ _;obtain ⟨c,aB⟩: ∃c,(l.filter bE).length=c:=⟨_,rfl⟩;rw[aB]at kx s2 lN;have bx:=fm c;have c9:(decide ((c:Int)<=((List.length s):Int)))=true:=am (by omega);have cV:(decide (((List.length s):Int)<=((List.length s):Int)))=true:=am (Int.le_refl _);have iJ: ∀r:List ah,(decide ((c:Int)<=((List.length (List.take c s++r)):Int)))=true:=fun r=>am (by rw[List.length_append,List.length_take];omega)
  have k7: ∀r:List ah,List.take c (List.take c s++r)=l.filter bE:=fun r=>by
   rw[List.take_append_of_le_length (by rw[List.length_take];omega),List.take_take,Nat.min_self,s2]
  simp only[yV,aa,e,aL,gu,kx,bx,c9,cK,b7,Bool.true_and,aA,bQ,List.append_assoc,iJ,k7,cV]
theorem aft (l:List ak) (p:List ah) (ao:l.length<=1000000000000) (aP:p.length<=100000000000000000):
  (ce (l,p,())=some ((-1:Int),l,p,())/\l.filter (di p)=l)\/ ∃i:Nat,i<l.length/\ce (l,p,())=some ((i:Int),l,p,())/\(l.take (i+1)).filter (di p)=l.take i:=by
 obtain ⟨z,aa,ad⟩:=bi (b:=y8) (fun i (_:Unit)=>((l.length:Int),(i:Int),l,p,())) l.length (fun i _=>(l.take i).filter (di p)=l.take i) (fun z=>(z=.inr (l,p,())/\l.filter (di p)=l)\/(∃i:Nat,i<l.length/\z=.inl ((i:Int),l,p,())/\(l.take (i+1)).filter (di p)=l.take i)) (by omega)
  (fun i ab _ aN=>by
   have ai:=gw (i:=i) (l:=l) (by omega);have aq:=fm i;have bb:=fK i (by omega);simp only[y8,ai,aq,aA,b7,bQ,cn ab,JG _ _ aP,bb];cases aU:di p l[i]
   ·refine .inr ⟨_,.inr ⟨i,ab,rfl,?_⟩,rfl⟩;rw[eZ ab,List.filter_append,aN];simp[aU]
   ·refine .inl ⟨(),?_,rfl⟩;rw[eZ ab,List.filter_append,aN];simp[aU])
  (fun _ aN=>by
   have ai:=hy l;rw[List.take_length]at aN;exact ⟨_,.inl ⟨rfl,aN⟩,by simp only[y8,ai,aL]⟩) () rfl
 have dc:Ml ((l.length:Int),0,l,p,())=some z:=aa;rcases ad with ⟨rfl,al⟩|⟨i,ab,rfl,al⟩
 ·exact .inl ⟨by simp only[ce,dc],al⟩
 ·exact .inr ⟨i,ab,by simp only[ce,dc],al⟩
theorem aoD (l:List ak) (p:List ah) (ao:l.length<=1000000000000) (aP:p.length<=100000000000000000):yU (l,p,())=some (p,l.filter (di p),()):=by
 rcases aft l p ao aP with ⟨aa,ad⟩|⟨i0,Nc,aa,ad⟩
 ·have e:(decide ((-1:Int)=(-1:Int)))=true:=rfl;simp only[yU,aa,cK,aA,ad]
 ·have e:(decide ((i0:Int)=(-1:Int)))=false:=bj (by omega);have gu:=fK i0 (by omega);have hlen: ∀j,((l.take j).filter (di p)).length<=j:=fun j=>Nat.le_trans (List.length_filter_le _ _) (by rw[List.length_take];omega)
  obtain ⟨z,g1,g2⟩:=bi (b:=va) (fun k (s:List ak)=>(((((l.take (i0+1+k)).filter (di p)).length:Nat):Int),((i0+1+k:Nat):Int),s,p,())) (l.length-(i0+1))
   (fun k s=>s.length=l.length/\s.take ((l.take (i0+1+k)).filter (di p)).length=(l.take (i0+1+k)).filter (di p)/\s.drop (i0+1+k)=l.drop (i0+1+k)/\((l.take (i0+1+k)).filter (di p)).length<i0+1+k)
   (fun z=> ∃s:List ak,z=.inl ((((l.filter (di p)).length:Nat):Int),s,p,())/\s.length=l.length/\s.take (l.filter (di p)).length=l.filter (di p)) (by omega)
   (fun k av s au=>by
    left;obtain ⟨s1,s2,gE,kd⟩:=au;obtain ⟨j,ay⟩: ∃j,i0+1+k=j:=⟨_,rfl⟩;rw[show i0+1+(k+1)=j+1 by omega];rw[ay]at s2 gE kd ⊢;have nY:j<l.length:=by omega
    have pd:j<s.length:=by omega
    have zU:s[j]=l[j]:=by
     have en:=List.drop_eq_getElem_cons pd;have a2:=List.drop_eq_getElem_cons nY;rw[gE,a2]at en;exact (List.cons.inj en).1.symm
    have zx:s.drop (j+1)=l.drop (j+1):=by
     have en:=List.drop_eq_getElem_cons pd;have a2:=List.drop_eq_getElem_cons nY;rw[gE,a2]at en;exact (List.cons.inj en).2.symm
    have ai:=gw (i:=j) (l:=s) (by omega);have aq:=fm j;have bb:=fK j (by omega);obtain ⟨c,aB⟩: ∃c,((l.take j).filter (di p)).length=c:=⟨_,rfl⟩;have aqm:c<=j:=by rw[<-aB];exact hlen j
    have pn:(l.take (j+1)).filter (di p)=(l.take j).filter (di p)++[l[j]].filter (di p):=by rw[eZ nY,List.filter_append]
    cases aU:di p l[j] with
    |false=>
     have lV:(l.take (j+1)).filter (di p)=(l.take j).filter (di p):=by rw[pn];simp[aU]
     refine ⟨s,⟨s1,by rw[lV];exact s2,zx,by rw[lV];omega⟩,?_⟩;rw[lV];simp only[va,ai,aq,aA,b7,bQ,cn pd,zU,JG _ _ aP,aU,dr,dt,aL,bb]
    |true=>
     have lV:(l.take (j+1)).filter (di p)=(l.take j).filter (di p)++[l[j]]:=by rw[pn];simp[aU]
     have gM:((l.take (j+1)).filter (di p)).length=c+1:=by rw[lV,List.length_append,aB];rfl
     rw[aB]at s2 kd;have bx:=fm c;have c9:(decide ((c:Int)<((List.length s):Int)))=true:=am (by omega);have cV:=fK c (by omega);refine ⟨s.set c l[j],⟨by rw[List.length_set];exact s1,?_,?_,?_⟩,?_⟩
     ·rw[gM,lV];have jD:c<(s.set c l[j]).length:=by rw[List.length_set];omega
      rw[eZ jD,List.take_set_of_le (Nat.le_refl _),s2];simp
     ·rw[List.drop_set_of_lt (by omega)];exact zx
     ·rw[gM];omega
     ·rw[gM,aB];simp only[va,ai,aq,bx,c9,aA,b7,bQ,cn pd,zU,JG _ _ aP,aU,dt,dr,bb,cV])
   (fun s au=>by
    obtain ⟨s1,s2,gE,kd⟩:=au;rw[show i0+1+(l.length-(i0+1))=l.length by omega]at s2 gE kd ⊢;rw[List.take_length]at s2 kd ⊢;have ai:(decide (((l.length:Nat):Int)<((List.length s):Int)))=false:=bj (by omega);exact ⟨_,⟨s,rfl,s1,s2⟩,by simp only[va,ai,aL]⟩) l (by
    refine ⟨rfl,?_,rfl,?_⟩
    ·rw[Nat.add_zero,ad,List.length_take,Nat.min_eq_left (by omega)]
    ·rw[Nat.add_zero,ad,List.length_take];omega)
  obtain ⟨s,rfl,s1,s2⟩:=g2;have fF:((((l.take (i0+1+0)).filter (di p)).length:Nat):Int)=(i0:Int):=by rw[Nat.add_zero,ad,List.length_take,Nat.min_eq_left (by omega)]
  have kx:Md ((i0:Int),((i0+1:Nat):Int),l,p,())=some (.inl ((((l.filter (di p)).length:Nat):Int),s,p,())):=by
   rw[<-fF];exact g1
  have lN:(l.filter (di p)).length<=l.length:=List.length_filter_le _ _;obtain ⟨c,aB⟩: ∃c,(l.filter (di p)).length=c:=⟨_,rfl⟩;rw[aB]at kx s2 lN;have bx:=fm c;have c9:(decide ((c:Int)<=((List.length s):Int)))=true:=am (by omega);have cV:(decide (((List.length s):Int)<=((List.length s):Int)))=true:=am (Int.le_refl _);have iJ: ∀r:List ak,(decide ((c:Int)<=((List.length (List.take c s++r)):Int)))=true:=fun r=>am (by rw[List.length_append,List.length_take];omega)
  have k7: ∀r:List ak,List.take c (List.take c s++r)=l.filter (di p):=fun r=>by
   rw[List.take_append_of_le_length (by rw[List.length_take];omega),List.take_take,Nat.min_self,s2]
  simp only[yU,aa,e,aL,gu,kx,bx,c9,cK,b7,Bool.true_and,aA,bQ,List.append_assoc,iJ,k7,cV]
theorem Kz (t:List ak) (L:List ah) (aU:t.length<1000000000000) (lK:L.length<=100000000000000000):wT (t,L,())=some (t.filter (di L),()):=by
 simp only[wT,CZ t aU,aoD t L (by omega) lK]
def cF (l:List ah) (k:af):Bool:=l.any fun s=>bU s k
theorem l2 (a b:List ah) (k:af):cF (a++b) k=(cF a k||cF b k):=List.any_append
theorem jK (s:ah) (k:af):cF [s] k=bU s k:=by simp[cF]
def ez (B:Nat) (l:List ah):Prop:= ∀s∈l,s.1.length<=B/\s.2.1.length<=B
abbrev aeU (a b:ah):Prop:=a.2.1≠[]/\Op.bytesLess a.2.1 b.1=true
structure l9 (l:List ah):Prop where
 ne: ∀s∈l,hW s=false
 gp:l.Pairwise aeU
theorem Dg {s:ah}:hW s=false↔(s.2.1=[]\/Op.bytesLess s.1 s.2.1=true):=by
 unfold hW;by_cases h:s.2.1=[]
 ·rw[am h];simp[h]
 ·rw[bj h];rcases hg s.1 s.2.1 with ad |ad |ad
  ·have al:decide (s.2.1=s.1)=false:=bj (fun e=>jl ad e.symm);simp[ad,hG ad,al]
  ·simp[h,ad,gJ]
  ·simp[h,ad,hG ad]
theorem Yh {s:ah} (h:hW s=true) (k:af):bU s k=false:=by
 cases bC:bU s k
 ·rfl
 ·obtain ⟨aa,ad⟩:=eS.1 bC;have:hW s=false:=Dg.2 (by
   rcases ad with ad |ad
   ·exact .inl ad
   ·right;rcases hg s.1 k with al |al |al
    ·exact e5 al ad
    ·rw[al];exact ad
    ·rw[aa]at al;cases al)
  rw[h]at this;cases this
theorem alW (l:List ah) (k:af):cF (l.filter bE) k=cF l k:=by
 unfold cF
 induction l with
 |nil=>rfl
 |cons s l aO=>
  rw[List.filter_cons,List.any_cons];cases h:bE s
  ·have:hW s=true:=by unfold bE at h;simpa using h
   rw[if_neg (by simp),aO,Yh this,Bool.false_or]
  ·rw[if_pos rfl,List.any_cons,aO]
theorem ano {a b:List ah} (h:a.Perm b) (k:af):cF a k=cF b k:=by
 unfold cF;rw[Bool.eq_iff_iff,List.any_eq_true,List.any_eq_true];constructor
 ·rintro ⟨s,au,av⟩;exact ⟨s,h.mem_iff.1 au,av⟩
 ·rintro ⟨s,au,av⟩;exact ⟨s,h.mem_iff.2 au,av⟩
theorem anx {a s:ah} (aa:Op.bytesLess s.1 a.1=false) (ad:Op.bytesLess a.2.1 s.1=false) (al:gZ a.2.1 s.2.1=true) (k:af):bU (a.1,s.2.1,()) k=(bU a k||bU s k):=by
 unfold gZ at al;rw[bB,Bool.not_eq_true',decide_eq_false_iff_not,Bool.or_eq_true,db]at al;obtain ⟨aE,aZ⟩:=al;rw[Bool.eq_iff_iff,Bool.or_eq_true,eS,eS,eS];show (Op.bytesLess k a.1=false/\(s.2.1=[]\/Op.bytesLess k s.2.1=true))↔_;constructor
 ·rintro ⟨a1,k2⟩;cases av:Op.bytesLess k a.2.1
  ·exact .inr ⟨mJ ad av,k2⟩
  ·exact .inl ⟨a1,.inr rfl⟩
 ·rintro (⟨a1,k2⟩|⟨a1,k2⟩)
  ·refine ⟨a1,?_⟩;rcases k2 with k2 |k2
   ·exact absurd k2 aE
   ·rcases aZ with aZ |aZ
    ·exact .inl aZ
    ·exact .inr (e5 k2 aZ)
  ·exact ⟨mJ aa a1,k2⟩
theorem anZ {a s:ah} (aa:Op.bytesLess s.1 a.1=false) (al:gZ a.2.1 s.2.1=false) (k:af):bU a k=(bU a k||bU s k):=by
 have:bU s k=true->bU a k=true:=by
  intro av;refine KU ?_ av;unfold sw;rw[aa];unfold gZ at al;by_cases e:a.2.1=[]
  ·rw[am e];rfl
  ·rw[bj e]at al ⊢;simp only[dr,Bool.true_and,Bool.or_eq_false_iff]at al;simp[al.1,al.2]
 cases h:bU s k
 ·rw[Bool.or_false]
 ·rw[this h];rfl
theorem anB (m:List ah) (au:QR m) (cf: ∀s∈m,hW s=false) (ao:m.length<1000000000000) (B:Nat) (cG:ez B m):
  ∃r,Jq ((m.length:Int),(0:Int),[],m,())=some (.inl (r,()))/\(∀k,cF r k=cF m k)/\r.length<=m.length/\l9 r/\ez B r:=by
 obtain ⟨z,aa,r,rfl,ad⟩:=bi (b:=q5) (fun i (o:List ah)=>((m.length:Int),(i:Int),o,m,())) m.length
  (fun i o=>(∀k,cF o k=cF (m.take i) k)/\o.length<=i/\l9 o/\ez B o/\((i=0/\o=[])\/ ∃p a,o=p++[a]/\ ∃j,∃ay:j<m.length,j<i/\a.1=m[j].1))
  (fun z=> ∃r,z=.inl (r,())/\(∀k,cF r k=cF m k)/\r.length<=m.length/\l9 r/\ez B r) (by omega)
  (fun i ab o an=>by
   left;obtain ⟨eL,h4,wD,og,Au⟩:=an;have ai:=gw (i:=i) (l:=m) (by omega);have b8:(decide ((0:Int)<=((i:Nat):Int)))=true:=am (by omega);have w:=fi (j:=i) (by omega);have lO:=List.getElem_mem ab;have Fg: ∀k,cF (m.take (i+1)) k=(cF (m.take i) k||bU m[i] k):=by
    intro k;rw[eZ ab,l2,jK]
   have room: ∀o:List ah,o.length<=i->(decide ((List.length o+List.length ([m[i]]:List (ah)))*32<=bm))=true:=fun o h=>am (by rw[dV];simp;omega)
   rcases Au with ⟨rfl,rfl⟩|⟨p,a,rfl,j,ay,nn,MU⟩
   ·refine ⟨[m[0]],⟨fun k=> ?_,by simp,⟨fun s au=> ?_,List.pairwise_singleton _ _⟩,fun s au=> ?_,.inr ⟨[],m[0],rfl,0,ab,by omega,rfl⟩⟩,?_⟩
    ·rw[Fg k];simp[cF]
    ·obtain rfl:=List.mem_singleton.1 au;exact cf _ lO
    ·obtain rfl:=List.mem_singleton.1 au;exact cG _ lO
    ·have aq:(!decide ((((List.length ([]:List ah)):Int):Int)=(0:Int)))=false:=rfl;have aj:=room [] (by simp);simp only[q5,tc,ai,b8,b7,aA,bQ,cn ab,aq,aL,aj,w,List.nil_append]
   ·have vG: ∀d,List.getD (p++[a]) p.length d=a:=fun d=>C1 (P:=p) (Q:=[]) rfl
    have hlen:(p++[a]).length=p.length+1:=by simp
    have aq:(!decide ((((List.length (p++[a])):Int):Int)=(0:Int)))=true:=by rw[bj (by omega)];rfl
    have cY:i64.wrap (((List.length (p++[a])):Int)-1)=(p.length:Int):=by rw[cR (by omega)];omega
    have lT:p.length<(p++[a]).length:=by omega
    have eH:Op.bytesLess m[i].1 a.1=false:=by
     rw[MU];exact List.pairwise_iff_getElem.1 au j i ay ab nn
    obtain ⟨ne,gp⟩:=wD;have ME:=List.pairwise_append.1 gp;have app:a.2.1≠[]->Op.bytesLess a.2.1 m[i].1=true->((∀k,cF (p++[a]++[m[i]]) k=cF (m.take (i+1)) k)/\(p++[a]++[m[i]]).length<=i+1/\l9 (p++[a]++[m[i]])/\ez B (p++[a]++[m[i]])/\((i+1=0/\(p++[a]++[m[i]])=[])\/ ∃p' bc,(p++[a]++[m[i]])=p'++[bc]/\ ∃j,∃ay:j<m.length,j<i+1/\bc.1=m[j].1)):=by
     intro g1 g2;refine ⟨fun k=>by rw[l2,eL k,jK,Fg k],by simp at h4 ⊢;omega,⟨fun s au=> ?_,?_⟩,fun s au=> ?_,.inr ⟨p++[a],m[i],rfl,i,ab,by omega,rfl⟩⟩
     ·rcases List.mem_append.1 au with h |h
      ·exact ne s h
      ·obtain rfl:=List.mem_singleton.1 h;exact cf _ lO
     ·refine List.pairwise_append.2 ⟨gp,List.pairwise_singleton _ _,fun x aw y bf=> ?_⟩;obtain rfl:=List.mem_singleton.1 bf;rcases List.mem_append.1 aw with h |h
      ·obtain ⟨bh,bZ⟩:=ME.2.2 x h a (List.mem_singleton.2 rfl);refine ⟨bh,?_⟩;rcases hg a.1 m[i].1 with aZ |aZ |aZ
       ·exact e5 bZ aZ
       ·rw[<-aZ];exact bZ
       ·rw[eH]at aZ;cases aZ
      ·obtain rfl:=List.mem_singleton.1 h;exact ⟨g1,g2⟩
     ·rcases List.mem_append.1 au with h |h
      ·exact og s h
      ·obtain rfl:=List.mem_singleton.1 h;exact cG _ lO
    have join:(a.2.1=[]\/Op.bytesLess a.2.1 m[i].1=false)-> ∃t,PA (((List.length (p++[a])):Int),(m.length:Int),(i:Int),p++[a],m[i],m,())=some (.inl ((m.length:Int),((i+1:Nat):Int),t,m,()))/\
      ((∀k,cF t k=cF (m.take (i+1)) k)/\t.length<=i+1/\l9 t/\ez B t/\((i+1=0/\t=[])\/ ∃p' bc,t=p'++[bc]/\ ∃j,∃ay:j<m.length,j<i+1/\bc.1=m[j].1)):=by
     intro g;obtain ⟨c,my,j3⟩:=Xr a.2.1 m[i].2.1;simp only[PA,cY,dP lT,aA,bQ,vG,my,j3,w];cases hle:gZ a.2.1 m[i].2.1
     ·refine ⟨_,rfl,fun k=> ?_,by omega,⟨ne,gp⟩,og,.inr ⟨p,a,rfl,j,ay,by omega,MU⟩⟩;rw[Fg k,<-eL k,l2,jK,Bool.or_assoc,<-anZ eH hle k]
     ·have g2:Op.bytesLess a.2.1 m[i].1=false:=by
       rcases g with g |g
       ·unfold gZ at hle;rw[am g]at hle;cases hle
       ·exact g
      have jI:(p++[a]).set p.length (a.1,m[i].2.1,a.2.2)=p++[(a.1,m[i].2.1,())]:=by simp
      refine ⟨p++[(a.1,m[i].2.1,())],by rw[<-jI];rfl,fun k=> ?_,by simp at h4 ⊢;omega,⟨fun s au=> ?_,?_⟩,fun s au=> ?_,.inr ⟨p,_,rfl,j,ay,by omega,MU⟩⟩
      ·have:=eL k;rw[l2,jK]at this;rw[Fg k,<-this,l2,jK,anx eH g2 hle k,Bool.or_assoc]
      ·rcases List.mem_append.1 au with h |h
       ·exact ne s (List.mem_append_left _ h)
       ·obtain rfl:=List.mem_singleton.1 h;have aR:=Dg.1 (ne a (by simp));unfold gZ at hle;rw[bB,Bool.not_eq_true',decide_eq_false_iff_not,Bool.or_eq_true,db]at hle;refine Dg.2 ?_;rcases hle.2 with aZ |aZ
        ·exact .inl aZ
        ·rcases aR with bt |bt
         ·exact absurd bt hle.1
         ·exact .inr (e5 bt aZ)
      ·refine List.pairwise_append.2 ⟨ME.1,List.pairwise_singleton _ _,fun x aw y bf=> ?_⟩;obtain rfl:=List.mem_singleton.1 bf;exact ME.2.2 x aw a (List.mem_singleton.2 rfl)
      ·rcases List.mem_append.1 au with h |h
       ·exact og s (List.mem_append_left _ h)
       ·obtain rfl:=List.mem_singleton.1 h;exact ⟨(og a (by simp)).1,(cG _ lO).2⟩
    have aj:=room (p++[a]) h4;by_cases bC:a.2.1=[]
    ·obtain ⟨t,t1,t2⟩:=join (.inl bC);have bb:(!decide ((a.2.1:af)=([]:af)))=false:=by rw[am bC];rfl
     refine ⟨t,t2,?_⟩;simp only[q5,tc,ai,b8,b7,aA,bQ,cn ab,aq,cY,dP lT,vG,bC,cK,dt,aL];exact t1
    ·cases a8:Op.bytesLess a.2.1 m[i].1
     ·obtain ⟨t,t1,t2⟩:=join (.inr a8);refine ⟨t,t2,?_⟩;simp only[q5,tc,ai,b8,b7,aA,bQ,cn ab,aq,cY,dP lT,vG,bC,decide_false,dr,a8,aL];exact t1
     ·refine ⟨p++[a]++[m[i]],app bC a8,?_⟩;simp only[q5,tc,ai,b8,b7,aA,bQ,cn ab,aq,cY,dP lT,vG,bC,decide_false,dr,a8,aj,w])
  (fun o an=>by
   obtain ⟨eL,h4,wD,og,Au⟩:=an;have ai:=hy m;refine ⟨_,⟨o,rfl,fun k=> ?_,h4,wD,og⟩,by simp only[q5,ai,aL]⟩;rw[eL k,List.take_length]) [] ⟨fun k=>by simp,by simp,⟨fun s au=>(by cases au),List.Pairwise.nil⟩,fun s au=>(by cases au),.inl ⟨rfl,rfl⟩⟩
 exact ⟨r,aa,ad⟩
theorem DK (l:List ah) (ao:l.length<1000000000000) (B:Nat) (cG:ez B l):
  ∃r,tM (l,())=some (r,())/\(∀k,cF r k=cF l k)/\r.length<=l.length/\l9 r/\ez B r:=by
 have ai:EM (l,())=some (l,()):=by
  unfold EM;have:(List.length ([]:List ah)+l.length)*32<=bm:=by rw[dV];simp;omega
  simp only[this,am,aA]
 have aq:=aoE l (by omega);have lN:(l.filter bE).length<=l.length:=List.length_filter_le _ _;obtain ⟨m,bb,aP,au⟩:=aon (l.filter bE) (by omega);have iO:m.length=(l.filter bE).length:=aP.length_eq;have n1: ∀s∈m,s∈l/\bE s=true:=fun s h=>List.mem_filter.1 (aP.mem_iff.1 h)
 obtain ⟨r,bx,aa,ad,al,aE⟩:=anB m au (fun s h=>by
  have:=(n1 s h).2;unfold bE at this;simpa using this) (by omega) B (fun s h=>cG s (n1 s h).1)
 exact ⟨r,by simp only[tM,ai,aq,bb,bx],fun k=>by rw[aa,ano aP,alW],by omega,al,aE⟩
theorem xL (a b:ah) (k:af):bU (ga a b) k=(bU a k&&bU b k):=by
 cases h:iD a b
 ·have e:ga a b=([97],([97],())):=by unfold ga;rw[h];rfl
  rw[e,Yh (by decide)];cases aa:bU a k
  ·rfl
  ·cases ad:bU b k
   ·rfl
   ·rw[yi.2 ⟨k,aa,ad⟩]at h;cases h
 ·rw[Bool.eq_iff_iff,bB];exact anw h
theorem afz (a b:af):ju a b=a\/ju a b=b:=by
 unfold ju;cases Op.bytesLess a b
 ·exact .inl rfl
 ·exact .inr rfl
theorem ant (a b:af):iB a b=a\/iB a b=b:=by
 unfold iB;cases gZ b a
 ·exact .inl rfl
 ·exact .inr rfl
theorem XS {a b:ah} {B:Nat} (aa:1<=B) (aR:a.1.length<=B/\a.2.1.length<=B) (ag:b.1.length<=B/\b.2.1.length<=B):(ga a b).1.length<=B/\(ga a b).2.1.length<=B:=by
 unfold ga;cases iD a b
 ·simp;omega
 ·show (ju a.1 b.1).length<=B/\(iB a.2.1 b.2.1).length<=B;refine ⟨?_,?_⟩
  ·rcases afz a.1 b.1 with e |e<;>rw[e]
   ·exact aR.1
   ·exact ag.1
  ·rcases ant a.2.1 b.2.1 with e |e<;>rw[e]
   ·exact aR.2
   ·exact ag.2
theorem ao2 (r:List ah) (aQ:l9 r) (ao:r.length<1000000000000) (B:Nat) (cG:ez B r):
  ∃g,xQ (r,())=some (g,())/\(∀k,cF g k= !cF r k)/\g.length<=r.length+1/\ez B g:=by
 have E6: ∀k:af,Op.bytesLess k []=false:=fun k=>by cases k<;>rfl
 have apo:(∀k,cF ([]:List ah) k=true↔(cF (r.take 0) k=false/\Op.bytesLess k []=true))/\([]:List ah).length<=0/\ez B []/\([]:af).length<=B/\(∀s∈r.drop 0,Op.bytesLess s.1 []=false)/\(∀s∈r.take 0,s.2.1≠[]/\Op.bytesLess [] s.2.1=false)/\(0=0->([]:af)=[]):=by
  refine ⟨fun k=> ?_,Nat.le_refl _,fun s au=>(by cases au),Nat.zero_le _,fun s au=>E6 _,fun s au=>(by simp at au),fun _=>rfl⟩;rw[E6 k];simp[cF]
 obtain ⟨z,aa,ad⟩:=bi (b:=q6) (fun i (q:af×List ah)=>(q.1,r,(r.length:Int),(i:Int),q.2,())) r.length
  (fun i q=>(∀k,cF q.2 k=true↔(cF (r.take i) k=false/\Op.bytesLess k q.1=true))/\q.2.length<=i/\ez B q.2/\q.1.length<=B/\(∀s∈r.drop i,Op.bytesLess s.1 q.1=false)/\(∀s∈r.take i,s.2.1≠[]/\Op.bytesLess q.1 s.2.1=false)/\(i=0->q.1=[]))
  (fun z=>(∃g,z=.inl (g,())/\(∀k,cF g k= !cF r k)/\g.length<=r.length+1/\ez B g)\/(∃lo g,z=.inr (lo,g,())/\(∀k,cF (g++[(lo,[],())]) k= !cF r k)/\g.length<=r.length/\ez B (g++[(lo,[],())]))) (by omega)
  (fun i ab q aN=>by
   obtain ⟨lo,o⟩:=q;obtain ⟨bh,bZ,da,c4,fh,gq,lq⟩:=aN;simp only at bh bZ da c4 fh gq lq;have ai:=gw (i:=i) (l:=r) (by omega);have b8:(decide ((0:Int)<=((i:Nat):Int)))=true:=am (by omega);have w:=fi (j:=i) (by omega);have lO:=List.getElem_mem ab;have ax:r.drop i=r[i]::r.drop (i+1):=List.drop_eq_getElem_cons ab;have room:(decide ((List.length o+List.length ([(lo,r[i].1,())]:List (ah)))*32<=bm))=true:=am (by rw[dV];simp;omega);have eH:Op.bytesLess r[i].1 lo=false:=fh _ (by rw[ax];exact List.mem_cons_self);have cf:=Dg.1 (aQ.ne _ lO);have iP: ∀k,cF (r.take (i+1)) k=(cF (r.take i) k||bU r[i] k):=by
    intro k;rw[eZ ab,l2,jK]
   have before: ∀k,Op.bytesLess k r[i].1=true->bU r[i] k=false:=by
    intro k av;cases h:bU r[i] k
    ·rfl
    ·rw[(eS.1 h).1]at av;cases av
   have after: ∀k,Op.bytesLess k lo=false->cF (r.take i) k=false:=by
    intro k av;unfold cF;rw[List.any_eq_false];intro s au h;obtain ⟨g1,g2⟩:=gq s au;rcases (eS.1 h).2 with h |h
    ·exact g1 h
    ·have:=mJ g2 av;rw[this]at h;cases h
   have ac6: ∀k,Op.bytesLess k lo=true->Op.bytesLess k r[i].1=true:=by
    intro k av;rcases hg lo r[i].1 with h |h |h
    ·exact e5 av h
    ·rw[<-h];exact av
    ·rw[eH]at h;cases h
   have aae: ∀de:List ah,(de=o++[(lo,r[i].1,())]/\r[i].1≠[]\/de=o/\r[i].1=[])-> ∀k,cF de k=true↔(cF (r.take (i+1)) k=false/\(r[i].2.1=[]\/Op.bytesLess k r[i].2.1=true)):=by
    intro de gW k;rw[iP k,Bool.or_eq_false_iff];rcases gW with ⟨rfl,aq4⟩|⟨rfl,ld⟩
    ·rw[l2,jK,Bool.or_eq_true,bh k,eS];show _\/(Op.bytesLess k lo=false/\(r[i].1=[]\/Op.bytesLess k r[i].1=true))↔_;constructor
     ·rintro (⟨al,aE⟩|⟨al,aE⟩)
      ·have aZ:=ac6 k aE;refine ⟨⟨al,before k aZ⟩,?_⟩;rcases cf with h |h
       ·exact .inl h
       ·exact .inr (e5 aZ h)
      ·have aZ:=aE.resolve_left aq4;refine ⟨⟨after k al,before k aZ⟩,?_⟩;rcases cf with h |h
       ·exact .inl h
       ·exact .inr (e5 aZ h)
     ·rintro ⟨⟨al,aE⟩,aZ⟩;have bt:Op.bytesLess k r[i].1=true:=by
       cases dn:Op.bytesLess k r[i].1
       ·rw[eS.2 ⟨dn,aZ⟩]at aE;cases aE
       ·rfl
      cases hX:Op.bytesLess k lo
      ·exact .inr ⟨rfl,.inr bt⟩
      ·exact .inl ⟨al,rfl⟩
    ·rw[bh k];have aqV: ∀k,Op.bytesLess k lo=true->False:=by
      intro k av;have:=ac6 k av;rw[ld]at this;cases k<;>cases this
     constructor
     ·rintro ⟨al,aE⟩;exact (aqV k aE).elim
     ·rintro ⟨⟨al,aE⟩,aZ⟩;have:bU r[i] k=true:=eS.2 ⟨by rw[ld];cases k<;>rfl,aZ⟩;rw[this]at aE;cases aE
   have tail:r[i].2.1=[]->r.take (i+1)=r:=by
    intro h;rcases Nat.lt_or_ge (i+1) r.length with ad |ad
    ·have:=List.pairwise_iff_getElem.1 aQ.gp i (i+1) ab ad (by omega);exact absurd h this.1
    ·exact List.take_of_length_le ad
   have done: ∀de:List ah,(de=o++[(lo,r[i].1,())]/\r[i].1≠[]\/de=o/\r[i].1=[])->r[i].2.1=[]->(∀k,cF de k= !cF r k):=by
    intro de gW h k;have:=aae de gW k;rw[tail h]at this;cases av:cF r k
    ·exact this.2 ⟨av,.inl h⟩
    ·cases an:cF de k
     ·rfl
     ·rw[(this.1 an).1]at av;cases av
   have go: ∀de:List ah,(de=o++[(lo,r[i].1,())]/\r[i].1≠[]\/de=o/\r[i].1=[])->r[i].2.1≠[]->(de.length<=i+1/\ez B de)->
     ((∀k,cF de k=true↔(cF (r.take (i+1)) k=false/\Op.bytesLess k r[i].2.1=true))/\de.length<=i+1/\ez B de/\r[i].2.1.length<=B/\(∀s∈r.drop (i+1),Op.bytesLess s.1 r[i].2.1=false)/\(∀s∈r.take (i+1),s.2.1≠[]/\Op.bytesLess r[i].2.1 s.2.1=false)/\(i+1=0->r[i].2.1=[])):=by
    intro de gW h ⟨al,aE⟩;refine ⟨fun k=> ?_,al,aE,(cG _ lO).2,fun s au=> ?_,fun s au=> ?_,fun h=>(by omega)⟩
    ·rw[aae de gW k];constructor
     ·rintro ⟨a,b⟩;exact ⟨a,b.resolve_left h⟩
     ·rintro ⟨a,b⟩;exact ⟨a,.inr b⟩
    ·obtain ⟨j,ay,rfl⟩:=List.mem_iff_getElem.1 au;rw[List.length_drop]at ay;rw[List.getElem_drop];have:=List.pairwise_iff_getElem.1 aQ.gp i (i+1+j) ab (by omega) (by omega);exact hG this.2
    ·rw[eZ ab]at au;rcases List.mem_append.1 au with au |au
     ·obtain ⟨g1,g2⟩:=gq s au;refine ⟨g1,?_⟩;have aZ:=cf.resolve_left h;exact mJ g2 (mJ eH (hG aZ))
     ·obtain rfl:=List.mem_singleton.1 au;exact ⟨h,gJ _⟩
   by_cases pf:r[i].1=[]
   ·have aq:(!decide ((r[i].1:af)=([]:af)))=false:=by rw[am pf];rfl
    by_cases iw:r[i].2.1=[]
    ·right;refine ⟨_,.inl ⟨o,rfl,done o (.inr ⟨rfl,pf⟩) iw,by omega,da⟩,?_⟩;simp only[q6,ai,b8,b7,aA,bQ,cn ab,pf,iw,cK,dt,aL]
    ·left;refine ⟨(r[i].2.1,o),go o (.inr ⟨rfl,pf⟩) iw ⟨by omega,da⟩,?_⟩;simp only[q6,ai,b8,b7,aA,bQ,cn ab,pf,iw,cK,decide_false,dt,aL,w]
   ·have zz:ez B (o++[(lo,r[i].1,())]):=by
     intro s au;rcases List.mem_append.1 au with h |h
     ·exact da s h
     ·obtain rfl:=List.mem_singleton.1 h;exact ⟨c4,(cG _ lO).1⟩
    by_cases iw:r[i].2.1=[]
    ·right;refine ⟨_,.inl ⟨o++[(lo,r[i].1,())],rfl,done _ (.inl ⟨rfl,pf⟩) iw,by simp;omega,zz⟩,?_⟩;simp only[q6,ai,b8,b7,aA,bQ,cn ab,pf,iw,cK,decide_false,dr,aL,room]
    ·left;refine ⟨(r[i].2.1,o++[(lo,r[i].1,())]),go _ (.inl ⟨rfl,pf⟩) iw ⟨by simp;omega,zz⟩,?_⟩;simp only[q6,ai,b8,b7,aA,bQ,cn ab,pf,iw,cK,decide_false,dr,aL,room,w])
  (fun q aN=>by
   obtain ⟨lo,o⟩:=q;obtain ⟨bh,bZ,da,c4,fh,gq,lq⟩:=aN;simp only at bh bZ da c4 fh gq lq;have ai:=hy r;rw[List.take_length]at bh gq;refine ⟨_,.inr ⟨lo,o,rfl,fun k=> ?_,bZ,fun s au=> ?_⟩,by simp only[q6,ai,aL]⟩
   ·rw[l2,jK,Bool.eq_iff_iff,Bool.or_eq_true,bh k,eS,Bool.not_eq_true'];show _\/(Op.bytesLess k lo=false/\(([]:af)=[]\/_))↔_;constructor
    ·rintro (⟨al,-⟩|⟨al,-⟩)
     ·exact al
     ·unfold cF;rw[List.any_eq_false];intro s au h;obtain ⟨g1,g2⟩:=gq s au;rcases (eS.1 h).2 with h |h
      ·exact g1 h
      ·have:=mJ g2 al;rw[this]at h;cases h
    ·intro h;cases av:Op.bytesLess k lo
     ·exact .inr ⟨rfl,.inl rfl⟩
     ·exact .inl ⟨h,rfl⟩
   ·rcases List.mem_append.1 au with h |h
    ·exact da s h
    ·obtain rfl:=List.mem_singleton.1 h;exact ⟨c4,by simp⟩) ([],[]) apo
 have dc:Js (([]:af),r,(r.length:Int),(0:Int),[],())=some z:=aa;rcases ad with ⟨g,rfl,al,aE,aZ⟩|⟨lo,g,rfl,al,aE,aZ⟩
 ·exact ⟨g,by simp only[xQ,dc],al,aE,aZ⟩
 ·have room:(decide ((List.length g+List.length ([(lo,[],())]:List (ah)))*32<=bm))=true:=am (by rw[dV];simp;omega);exact ⟨g++[(lo,[],())],by simp only[xQ,dc,room,aA],al,by simp;omega,aZ⟩
theorem Kg {α:Type} (L:List (List α)) (c:Nat) (h: ∀a∈L,a.length<=c):L.flatten.length<=L.length*c:=by
 induction L with
 |nil=>simp
 |cons a L aO=>
  rw[List.flatten_cons,List.length_append,List.length_cons];have aa:=h a List.mem_cons_self;have ad:=aO (fun b ag=>h b (List.mem_cons_of_mem _ ag));rw[Nat.add_mul];omega
theorem ao7 (l g:List ah) (n i:Nat) (L:List ah) (o:List ah) (x:ah) (gs:List ah) (ao:l.length<1000000000) (an:o.length+l.length<1000000000000):
  Iq (l,(n:Int),(i:Int),l,(l.length:Int),(0:Int),o,x,gs,())=some (.inl (l,(n:Int),(i:Int),o++l.map (ga x),gs,())):=by
 obtain ⟨z,aa,rfl⟩:=bi (b:=A3) (fun j (q:List ah)=>(l,(n:Int),(i:Int),l,(l.length:Int),(j:Int),q,x,gs,())) l.length (fun j q=>q=o++(l.take j).map (ga x)) (fun z=>z=.inl (l,(n:Int),(i:Int),o++l.map (ga x),gs,())) (by omega)
  (fun j ay q aN=>by
   left;have ai:=gw (i:=j) (l:=l) (by omega);have b8:(decide ((0:Int)<=((j:Nat):Int)))=true:=am (by omega);have w:=fi (j:=j) (by omega);have room:(decide ((List.length q+List.length ([ga x l[j]]:List (ah)))*32<=bm))=true:=am (by rw[dV,aN];simp;omega);refine ⟨q++[ga x l[j]],by rw[aN,eZ ay,List.map_append,List.append_assoc];rfl,?_⟩;simp only[A3,ai,b8,b7,aA,bQ,cn ay,CB,room,w])
  (fun q aN=>by
   have ai:=hy l;rw[List.take_length]at aN;exact ⟨_,rfl,by simp only[A3,ai,aL,aN]⟩) o (by simp)
 exact aa
theorem ao6 (l m:List ah) (ao:l.length<1000000000) (hm:m.length<100) (B:Nat) (aa:1<=B) (cG:ez B l) (iL:ez B m):
  ∃r,CT (l,m,())=some (r,())/\(∀k,cF r k=(cF l k&& !cF m k))/\r.length<=(m.length+1)*l.length/\l9 r/\ez B r:=by
 obtain ⟨n,ai,cC,dj,n3,n4⟩:=DK m (by omega) B iL;obtain ⟨g,aq,g1,g2,g3⟩:=ao2 n n3 (by omega) B n4;have hmul:g.length*l.length<=(m.length+1)*l.length:=Nat.mul_le_mul_right _ (by omega);have avo:(m.length+1)*l.length<=100*l.length:=Nat.mul_le_mul_right _ (by omega);obtain ⟨z,ad,rfl⟩:=bi (b:=AY) (fun i (q:List ah)=>(l,(g.length:Int),(i:Int),q,g,())) g.length (fun i q=>q=(g.take i).flatMap fun x=>l.map (ga x)) (fun z=>z=.inl (g.flatMap (fun x=>l.map (ga x)),())) (by omega)
  (fun i ab q aN=>by
   left;have ai:=gw (i:=i) (l:=g) (by omega);have b8:(decide ((0:Int)<=((i:Nat):Int)))=true:=am (by omega);have w:=fi (j:=i) (by omega);have arh:q.length<=i*l.length:=by
    rw[aN,List.flatMap_def];have:=Kg ((g.take i).map fun x=>l.map (ga x)) l.length (by
     intro a aR;obtain ⟨x,-,rfl⟩:=List.mem_map.1 aR;simp)
    rw[List.length_map,List.length_take]at this;exact Nat.le_trans this (Nat.mul_le_mul_right _ (by omega))
   have sK:i*l.length<=100*l.length:=Nat.mul_le_mul_right _ (by omega);have bb:=ao7 l g g.length i l q g[i] g ao (by omega);refine ⟨q++l.map (ga g[i]),by rw[eZ ab,List.flatMap_append,<-aN];simp,?_⟩;simp only[AY,ai,b8,b7,aA,bQ,cn ab,bb,w])
  (fun q aN=>by
   have ai:=hy g;rw[List.take_length]at aN;exact ⟨_,rfl,by simp only[AY,ai,aL,aN]⟩) [] (by simp)
 have gL:Ip (l,(g.length:Int),(0:Int),[],g,())=_:=ad;have lN:(g.flatMap fun x=>l.map (ga x)).length<=g.length*l.length:=by
  rw[List.flatMap_def];have:=Kg (g.map fun x=>l.map (ga x)) l.length (by
   intro a aR;obtain ⟨x,-,rfl⟩:=List.mem_map.1 aR;simp)
  rw[List.length_map]at this;exact this
 obtain ⟨r,bx,ar,aM,bF,cT⟩:=DK (g.flatMap fun x=>l.map (ga x)) (by omega) B (by
  intro s au;obtain ⟨x,aw,au⟩:=List.mem_flatMap.1 au;obtain ⟨y,bf,rfl⟩:=List.mem_map.1 au;exact XS aa (g3 x aw) (cG y bf))
 refine ⟨r,by simp only[CT,ai,aq,gL,bx],fun k=> ?_,by omega,bF,cT⟩;rw[ar k,<-cC k,<-g1 k];unfold cF;rw[Bool.eq_iff_iff,bB,List.any_eq_true,List.any_eq_true,List.any_eq_true];constructor
 ·rintro ⟨s,au,av⟩;obtain ⟨x,aw,au⟩:=List.mem_flatMap.1 au;obtain ⟨y,bf,rfl⟩:=List.mem_map.1 au;rw[xL,bB]at av;exact ⟨⟨y,bf,av.2⟩,x,aw,av.1⟩
 ·rintro ⟨⟨y,bf,al⟩,x,aw,aE⟩;refine ⟨ga x y,List.mem_flatMap.2 ⟨x,aw,List.mem_map.2 ⟨y,bf,rfl⟩⟩,?_⟩;rw[xL,aE,al];rfl
theorem uA {p:af} (h:p∈eM):(c6 p).2.1≠[]/\(c6 p).1=p/\(c6 p).2.1.length<=4/\Op.bytesLess p (c6 p).2.1=true:=by
 have aa:eM.all (fun p=> !decide ((c6 p).2.1=[])&&decide ((c6 p).2.1.length<=4)&&Op.bytesLess p (c6 p).2.1)=true:=by kernel_rfl
 have:=List.all_eq_true.1 aa p h;rw[bB,bB,Bool.not_eq_true',decide_eq_false_iff_not,db]at this;exact ⟨this.1.1,rfl,this.1.2,this.2⟩
theorem l1 {p:af} (h:p∈eM) (k:af):bU (c6 p) k=bI k p:=by
 obtain ⟨-,-,al⟩:=kM p (j8 p h);exact uJ al k
theorem apa {x y:ah} {t f:af} (aU:t∈eM) (aJ:f∈eM) (aw:x=ga y (c6 t)) (cf:iD y (c6 t)=true) {B:Nat} (cG:x.1.length<=B/\x.2.1.length<=B) (iL:B<=100000) (qL:4<=B):
  ∃r,By (x,t,f,())=some (r,())/\(r.1.length<=B+4/\r.2.1.length<=B+4)/\ ∀k,bU r k=true↔(bI k f=true/\bU x (eK f t k)=true):=by
 obtain ⟨t1,t2,t3,t4⟩:=uA aU;obtain ⟨f1,f2,f3,f4⟩:=uA aJ;obtain ⟨a1,jf,jg⟩:=yi.1 cf;have NX:bU x a1=true:=by rw[aw,xL,jf,jg];rfl
 have arH: ∀k,bU x k=true->bI k t=true:=by
  intro k av;rw[aw,xL,bB]at av;rw[<-l1 aU];exact av.2
 have ex:x=(ju y.1 (c6 t).1,(iB y.2.1 (c6 t).2.1,())):=by rw[aw];unfold ga;rw[cf];rfl
 have eH:x.1=ju y.1 t:=by rw[ex];show ju y.1 (c6 t).1=_;rw[t2]
 have iw:x.2.1=iB y.2.1 (c6 t).2.1:=by rw[ex]
 obtain ⟨en,a2⟩:=eS.1 NX;have aao:x.2.1≠[]:=by
  rw[iw];unfold iB;cases ao:gZ (c6 t).2.1 y.2.1
  ·show y.2.1≠[];intro e;unfold gZ at ao;rw[bj t1,e]at ao;cases ao
  ·exact t1
 have a2:=a2.resolve_left aao;have apS:Op.bytesLess (c6 t).2.1 x.2.1=false:=by
  rw[iw];unfold iB;cases ao:gZ (c6 t).2.1 y.2.1
  ·show Op.bytesLess (c6 t).2.1 y.2.1=false;unfold gZ at ao;rw[bj t1]at ao;simp only[dr,Bool.true_and,Bool.or_eq_false_iff]at ao;exact ao.2
  ·exact gJ _
 have apY:Op.bytesLess x.1 t=false:=by
  rw[eH];have:=(Du (a:=y.1) (b:=t) (k:=ju y.1 t)).1 (gJ _);exact this.2
 have aap:Op.bytesLess x.1 x.2.1=true:=by
  rcases hg x.1 a1 with al |al |al
  ·exact e5 al a2
  ·rw[al];exact a2
  ·rw[en]at al;cases al
 have MK:bI x.1 t=true:=arH x.1 (eS.2 ⟨gJ _,.inr aap⟩);obtain ⟨tC,mE⟩:=iz.1 MK;have adO:=rL t aU;have Z7:=rL f aJ;have c2:=C3 x.1 t f (by omega);have cr:=C3 x.2.1 t f (by omega);obtain ⟨gD,-,-⟩:=kM f (j8 f aJ);rw[MK,aA]at c2;have Z8:(eK t f x.1).length<=B+4:=by
  have:=DJ (t:=t) (f:=f) (k:=x.1) MK;omega
 have fin: ∀k,bI k f=true-> ∃r,k=f++r/\eK f t k=t++r:=by
  intro k av;obtain ⟨r,az⟩:=iz.1 av;exact ⟨r,az,by rw[az,jN]⟩
 have lN: ∀k,Op.bytesLess k (f++tC)=false->Op.bytesLess k f=false:=by
  intro k av;have:Op.bytesLess (f++tC) f=false:=by
   have h:=x9 f tC;rw[<-l1 aJ]at h;exact (eS.1 h).1
  exact mJ this av
 cases ag:bI x.2.1 t with
 |true=>
  rw[ag,aA]at cr;obtain ⟨AO,NI⟩:=iz.1 ag;refine ⟨(eK t f x.1,eK t f x.2.1,()),by simp only[By,gD,c2,cr,aA],⟨Z8,?_⟩,fun k=> ?_⟩
  ·have:=DJ (t:=t) (f:=f) (k:=x.2.1) ag;show (eK t f x.2.1).length<=_;omega
  ·have ai:eK t f x.1=f++tC:=by rw[mE,jN]
   have aq:eK t f x.2.1=f++AO:=by rw[NI,jN]
   rw[ai,aq,eS,eS];show (Op.bytesLess k (f++tC)=false/\(f++AO=[]\/Op.bytesLess k (f++AO)=true))↔_;constructor
   ·rintro ⟨aa,ad⟩;have ad:Op.bytesLess k (f++AO)=true:=by
     rcases ad with ad |ad
     ·obtain ⟨al,aE⟩:=List.append_eq_nil_iff.1 ad;rw[al]at aJ;exact absurd aJ (by decide)
     ·exact ad
    have nZ:bI k f=true:=by
     rw[<-l1 aJ];refine eS.2 ⟨lN k aa,.inr ?_⟩;have h:=x9 f AO;rw[<-l1 aJ]at h;rcases (eS.1 h).2 with h |h
     ·exact absurd h f1
     ·exact e5 ad h
    obtain ⟨r,rfl,az⟩:=fin k nZ;rw[lZ]at aa ad;refine ⟨nZ,?_⟩;rw[az,mE,NI,lZ,lZ];exact ⟨aa,.inr ad⟩
   ·rintro ⟨nZ,al,aE⟩;obtain ⟨r,rfl,az⟩:=fin k nZ;have aE:=aE.resolve_left aao;rw[az,mE,lZ]at al;rw[az,NI,lZ]at aE;rw[lZ,lZ];exact ⟨al,.inr aE⟩
 |false=>
  rw[ag,aL]at cr;have apR:x.2.1=(c6 t).2.1:=by
   rcases hg x.2.1 (c6 t).2.1 with h |h |h
   ·have:bU (c6 t) x.2.1=true:=eS.2 ⟨mJ (by rw[t2];exact apY) (hG aap),.inr h⟩;rw[l1 aU,ag]at this;cases this
   ·exact h
   ·rw[apS]at h;cases h
  refine ⟨(eK t f x.1,(c6 f).2.1,()),by simp only[By,gD,c2,cr,aL],⟨Z8,by show (c6 f).2.1.length<=_;omega⟩,fun k=> ?_⟩;have ai:eK t f x.1=f++tC:=by rw[mE,jN]
  rw[ai,eS,eS];show (Op.bytesLess k (f++tC)=false/\((c6 f).2.1=[]\/Op.bytesLess k (c6 f).2.1=true))↔_;constructor
  ·rintro ⟨aa,ad⟩;have ad:=ad.resolve_left f1;have nZ:bI k f=true:=by
    rw[<-l1 aJ];exact eS.2 ⟨lN k aa,.inr ad⟩
   obtain ⟨r,rfl,az⟩:=fin k nZ;rw[lZ]at aa;refine ⟨nZ,?_⟩;rw[az,mE,lZ];refine ⟨aa,.inr ?_⟩;have h:=x9 t r;rw[<-l1 aU]at h;rw[apR];exact ((eS.1 h).2).resolve_left t1
  ·rintro ⟨nZ,al,aE⟩;obtain ⟨r,rfl,az⟩:=fin k nZ;rw[az,mE,lZ]at al;rw[lZ];have h:=nZ;rw[<-l1 aJ]at h;exact ⟨al,(eS.1 h).2⟩
def QV (m:a6) (l r:List ah):Prop:= ∀k,cF r k=true↔ ∃bk st,cF l bk=true/\ek m bk=.old k st
theorem DR (l m:List ah) (ao:l.length<1000000000) (hm:m.length<100) (B:Nat) (aa:1<=B) (cG:ez B l) (iL:ez B m):
  ∃r,pu (m,l,())=some (l,r,())/\(∀k,cF r k=(cF l k&& !cF m k))/\r.length<=(m.length+1)*l.length/\l9 r/\ez B r:=by
 obtain ⟨r,e,h⟩:=ao6 l m ao hm B aa cG iL;exact ⟨r,by simp only[pu,e],h⟩
theorem aoK (m:a6) (aJ:m.2.2.2.2.1∈eM) (aU:m.2.2.2.2.2.1∈eM) (l out:List ah) (ao:l.length<1000000000) (an:out.length<100000000000) (B:Nat) (cG:ez B l) (iL:B<=100000) (qL:4<=B) (c:Int):
  ∃w,OD ((l.length:Int),(0:Int),c,l,m,c6 m.2.2.2.2.2.1,out,())=some (.inl (c,l,out++w,()))/\w.length<=l.length/\ez (B+4) w/\
   ∀k,cF w k=true↔(bI k m.2.2.2.2.1=true/\cF l (eK m.2.2.2.2.1 m.2.2.2.2.2.1 k)=true):=by
 have Fb:=uA aU;have adO:=rL _ aU;obtain ⟨z,aa,w,rfl,ad⟩:=bi (b:=vx) (fun i (w:List ah)=>((l.length:Int),(i:Int),c,l,m,c6 m.2.2.2.2.2.1,out++w,())) l.length
  (fun i w=>w.length<=i/\ez (B+4) w/\ ∀k,cF w k=true↔(bI k m.2.2.2.2.1=true/\cF (l.take i) (eK m.2.2.2.2.1 m.2.2.2.2.2.1 k)=true))
  (fun z=> ∃w,z=.inl (c,l,out++w,())/\w.length<=l.length/\ez (B+4) w/\ ∀k,cF w k=true↔(bI k m.2.2.2.2.1=true/\cF l (eK m.2.2.2.2.1 m.2.2.2.2.2.1 k)=true)) (by omega)
  (fun i ab w hw=>by
   left;obtain ⟨cY,c0,fJ⟩:=hw;have ai:=gw (i:=i) (l:=l) (by omega);have b8:(decide ((0:Int)<=((i:Nat):Int)))=true:=am (by omega);have GQ:=fi (j:=i) (by omega);have lO:=List.getElem_mem ab;have iP: ∀k,cF (l.take (i+1)) k=(cF (l.take i) k||bU l[i] k):=by
    intro k;rw[eZ ab,l2,jK]
   have zq: ∀k,bI k m.2.2.2.2.1=true->bI (eK m.2.2.2.2.1 m.2.2.2.2.2.1 k) m.2.2.2.2.2.1=true:=fun k _=>sn
   cases zX:iD l[i] (c6 m.2.2.2.2.2.1)
   ·have he:hW (ga l[i] (c6 m.2.2.2.2.2.1))=true:=by rw[JW,zX];rfl
    refine ⟨w,⟨by omega,c0,fun k=> ?_⟩,?_⟩
    ·rw[fJ k,iP,Bool.or_eq_true];constructor
     ·rintro ⟨al,aE⟩;exact ⟨al,.inl aE⟩
     ·rintro ⟨al,aE |aE⟩
      ·exact ⟨al,aE⟩
      ·have aZ:=zq k al;rw[<-l1 aU]at aZ;rw[yi.2 ⟨_,aE,aZ⟩]at zX;cases zX
    ·simp only[vx,ai,b8,b7,aA,bQ,cn ab,CB,Bc,he,dt,aL,GQ]
   ·have he:hW (ga l[i] (c6 m.2.2.2.2.2.1))=false:=by rw[JW,zX];rfl
    obtain ⟨r,ar,aM,bF⟩:=apa (x:=ga l[i] (c6 m.2.2.2.2.2.1)) aU aJ rfl zX (B:=B) (XS (by omega) (cG _ lO) ⟨by rw[Fb.2.1];omega,by omega⟩) iL qL;have room:(decide ((List.length (out++w)+List.length ([r]:List (ah)))*32<=bm))=true:=am (by rw[dV];simp;omega);refine ⟨w++[r],⟨by simp;omega,fun s au=> ?_,fun k=> ?_⟩,?_⟩
    ·rcases List.mem_append.1 au with h |h
     ·exact c0 s h
     ·obtain rfl:=List.mem_singleton.1 h;exact aM
    ·rw[l2,jK,Bool.or_eq_true,fJ k,bF k,iP,xL,Bool.or_eq_true,bB];constructor
     ·rintro (⟨al,aE⟩|⟨al,aE,-⟩)
      ·exact ⟨al,.inl aE⟩
      ·exact ⟨al,.inr aE⟩
     ·rintro ⟨al,aE |aE⟩
      ·exact .inl ⟨al,aE⟩
      ·refine .inr ⟨al,aE,?_⟩;rw[l1 aU];exact zq k al
    ·rw[<-List.append_assoc];simp only[vx,ai,b8,b7,aA,bQ,cn ab,CB,Bc,he,dr,ar,room,GQ])
  (fun w hw=>by
   have ai:=hy l;rw[List.take_length]at hw;exact ⟨_,⟨w,rfl,hw⟩,by simp only[vx,ai,aL]⟩) [] ⟨Nat.le_refl _,fun s au=>(by cases au),fun k=>(by simp[cF])⟩
 rw[List.append_nil]at aa;exact ⟨w,aa,ad⟩
theorem agb (i:Int) (m:a6) (hm:fL m) (sU:m.1=3->m.2.2.2.1.1.length<=200/\m.2.2.2.1.2.1.length<=200) (l:List ah) (ao:l.length<100000000) (B:Nat) (cG:ez B l) (iL:B<=10000) (qL:200<=B) (jj:l9 l):
  ∃r,dl (i,m,(0:Int),l,())=some (true,0,r,())/\QV m l r/\r.length<=4*l.length/\ez (B+4) r/\l9 r:=by
 have zf: ∀r:List ah,ez B r->ez (B+4) r:=fun r h s au=>by
  have:=h s au;omega
 have zi:(decide ((-1:Int)= -1))=true:=rfl;have one: ∀k∈jk,oo (k,())=some ((k,k++[0],()),())/\ez B [(k,k++[0],())]:=by
  intro k av;refine ⟨(uI av).1,fun s au=> ?_⟩;obtain rfl:=List.mem_singleton.1 au;have:=(tT k av).2;constructor
  ·show k.length<=B;omega
  ·show (k++[0]).length<=B;simp;omega
 by_cases aa:m.1=1
 ·obtain ⟨eL,h4⟩:=one m.2.1 (hm.key (.inl aa));obtain ⟨r,e,g1,g2,g3,g4⟩:=DR l [(m.2.1,m.2.1++[0],())] (by omega) (by simp) B (by omega) cG h4;refine ⟨r,by simp only[dl,qw,aa,cK,aA,eL,e,zi],fun k=> ?_,by simp at g2;omega,zf r g4,g3⟩;rw[g1 k,jK,yc,bB,Bool.not_eq_true',decide_eq_false_iff_not];unfold ek;simp only[aa,if_true];constructor
  ·rintro ⟨ad,al⟩;exact ⟨k,none,ad,by rw[if_neg (fun e=>al e.symm)]⟩
  ·rintro ⟨bk,st,ad,al⟩;by_cases e:m.2.1=bk
   ·rw[if_pos e]at al;cases al
   ·rw[if_neg e]at al;injection al with ai aq
    rw[<-ai];exact ⟨ad,fun h=>e h.symm⟩
 ·have d1:decide (m.1=1)=false:=bj aa;by_cases ad:m.1=2
  ·obtain ⟨eL,h4⟩:=one m.2.1 (hm.key (.inr ad));obtain ⟨r,e,g1,g2,g3,g4⟩:=DR l [(m.2.1,m.2.1++[0],())] (by omega) (by simp) B (by omega) cG h4;refine ⟨r,by simp only[dl,qw,ad,d1,cK,aA,aL,eL,e,zi,show decide ((2:Int)=1)=false from rfl],fun k=> ?_,by simp at g2;omega,zf r g4,g3⟩;rw[g1 k,jK,yc,bB,Bool.not_eq_true',decide_eq_false_iff_not];constructor
   ·rintro ⟨aE,al⟩;refine ⟨k,none,aE,?_⟩;unfold ek;rw[if_neg aa,if_pos ad,if_neg (fun e=>al e.symm)]
   ·rintro ⟨bk,st,aE,al⟩;unfold ek at al;rw[if_neg aa,if_pos ad]at al;by_cases e:m.2.1=bk
    ·rw[if_pos e]at al;cases al
    ·rw[if_neg e]at al;injection al with ai aq
     rw[<-ai];exact ⟨aE,fun h=>e h.symm⟩
  ·have d2:decide (m.1=2)=false:=bj ad;by_cases al:m.1=3
   ·obtain ⟨r,e,g1,g2,g3,g4⟩:=DR l [m.2.2.2.1] (by omega) (by simp) B (by omega) cG (fun s au=>by
     obtain rfl:=List.mem_singleton.1 au;have:=sU al;omega)
    refine ⟨r,by simp only[dl,qw,al,cK,aA,aL,e,zi,show decide ((3:Int)=1)=false from rfl,show decide ((3:Int)=2)=false from rfl],fun k=> ?_,by simp at g2;omega,zf r g4,g3⟩;rw[g1 k,jK,bB,Bool.not_eq_true'];constructor
    ·rintro ⟨aE,aZ⟩;refine ⟨k,none,aE,?_⟩;unfold ek;rw[if_neg aa,if_neg ad,if_pos al,if_neg (by rw[aZ];simp)]
    ·rintro ⟨bk,st,aE,aZ⟩;unfold ek at aZ;rw[if_neg aa,if_neg ad,if_pos al]at aZ;by_cases e:bU m.2.2.2.1 bk=true
     ·rw[if_pos e]at aZ;cases aZ
     ·rw[if_neg e]at aZ;injection aZ with ai aq
      rw[<-ai];exact ⟨aE,by simpa using e⟩
   ·have d3:decide (m.1=3)=false:=bj al;by_cases bt:m.1=6
    ·refine ⟨l,by simp only[dl,qw,Ah,bt,cK,aA,aL,zi,show decide ((6:Int)=1)=false from rfl,show decide ((6:Int)=2)=false from rfl,show decide ((6:Int)=3)=false from rfl,show decide ((6:Int)=4)=false from rfl,show decide ((6:Int)=5)=false from rfl],fun k=> ?_,by omega,zf l cG,jj⟩;constructor
     ·intro aE;refine ⟨k,(if bU m.2.2.2.1 k=true then some m.2.2.2.2.2.2.1 else none),aE,?_⟩;unfold ek;rw[if_neg aa,if_neg ad,if_neg al,if_pos bt]
     ·rintro ⟨bk,st,aE,aZ⟩;unfold ek at aZ;rw[if_neg aa,if_neg ad,if_neg al,if_pos bt]at aZ;injection aZ with ai aq
      rw[<-ai];exact aE
    ·have an:=hm.mv aa ad al bt;obtain ⟨ri,-,-⟩:=kM _ (j8 _ an.from_);obtain ⟨tr,-,-⟩:=kM _ (j8 _ an.to_);obtain ⟨au1,au2,au3,-⟩:=uA an.from_;obtain ⟨avH,avI,avJ,-⟩:=uA an.to_;have Z7:=rL _ an.from_;have adO:=rL _ an.to_;have rest: ∀gone:List ah,gone.length<=2->ez B gone->(∀k,cF gone k=true↔(bI k m.2.2.2.2.2.1=true\/(m.1=4/\bI k m.2.2.2.2.1=true)))->
       ∃r,Ai ((-1:Int),l,m,c6 m.2.2.2.2.2.1,gone,())=some (true,0,r,())/\QV m l r/\r.length<=4*l.length/\ez (B+4) r/\l9 r:=by
      intro gone aaK ni aaL;obtain ⟨a,ai,en,a2,a3,a4⟩:=DR l gone (by omega) (by omega) B (by omega) cG ni;have ap8:(gone.length+1)*l.length<=3*l.length:=Nat.mul_le_mul_right _ (by omega);obtain ⟨w,aq,cY,c0,fJ⟩:=aoK m an.from_ an.to_ l a (by omega) (by omega) B cG (by omega) (by omega) (-1);obtain ⟨r,bb,ar,aM,bF,cT⟩:=DK (a++w) (by rw[List.length_append];omega) (B+4) (by
       intro s au;rcases List.mem_append.1 au with h |h
       ·exact zf a a4 s h
       ·exact c0 s h)
      rw[List.length_append]at aM;refine ⟨r,by simp only[Ai,ai,aq,bb,zi,cK,aA],fun k=> ?_,by omega,cT,bF⟩;rw[ar k,l2,Bool.or_eq_true,fJ k,en k,bB,Bool.not_eq_true'];have aqA:cF gone k=false↔ ¬(bI k m.2.2.2.2.2.1=true\/(m.1=4/\bI k m.2.2.2.2.1=true)):=by
       rw[<-aaL k];simp
      constructor
      ·rintro (⟨aE,aZ⟩|⟨aE,aZ⟩)
       ·have jd:=aqA.1 aZ;refine ⟨k,none,aE,?_⟩;unfold ek;rw[if_neg aa,if_neg ad,if_neg al,if_neg bt,if_neg (fun h=>jd (.inr h)),if_neg (fun h=>jd (.inl h))]
       ·refine ⟨eK m.2.2.2.2.1 m.2.2.2.2.2.1 k,none,aZ,?_⟩;have ag:bI (eK m.2.2.2.2.1 m.2.2.2.2.2.1 k) m.2.2.2.2.2.1=true:=sn;unfold ek;rw[if_neg aa,if_neg ad,if_neg al,if_neg bt,if_neg (fun h=>by have:=an.not_both h.2;rw[ag]at this;cases this),if_pos ag];obtain ⟨x,aw⟩:=iz.1 aE;rw[aw,jN,jN]
      ·rintro ⟨bk,st,aE,aZ⟩;unfold ek at aZ;rw[if_neg aa,if_neg ad,if_neg al,if_neg bt]at aZ;by_cases a7:m.1=4/\bI bk m.2.2.2.2.1=true
       ·rw[if_pos a7]at aZ;cases aZ
       ·rw[if_neg a7]at aZ;by_cases aY:bI bk m.2.2.2.2.2.1=true
        ·rw[if_pos aY]at aZ;injection aZ with ai aq
         obtain ⟨x,aw⟩:=iz.1 aY;rw[aw,jN]at ai;right;rw[<-ai,jN,<-aw];exact ⟨x9 _ _,aE⟩
        ·rw[if_neg aY]at aZ;injection aZ with ai aq
         left;rw[<-ai];exact ⟨aE,(by
          have: ¬(bI bk m.2.2.2.2.2.1=true\/(m.1=4/\bI bk m.2.2.2.2.1=true)):=fun h=>h.elim aY a7
          rw[<-aaL bk]at this;simpa using this)⟩
     have L5: ∀p∈eM,(c6 p).1.length<=B/\(c6 p).2.1.length<=B:=by
      intro p aP;obtain ⟨-,bZ,da,-⟩:=uA aP;have:=rL p aP;rw[bZ];omega
     rcases an.kind with aE |aZ
     ·have room:(decide ((List.length ([c6 m.2.2.2.2.2.1]:List (ah))+List.length ([c6 m.2.2.2.2.1]:List (ah)))*32<=bm))=true:=by rw[dV];rfl
      obtain ⟨r,e,az⟩:=rest [c6 m.2.2.2.2.2.1,c6 m.2.2.2.2.1] (by simp) (fun s au=>by
       rcases List.mem_cons.1 au with rfl |au
       ·exact L5 _ an.to_
       ·obtain rfl:=List.mem_singleton.1 au;exact L5 _ an.from_) (fun k=>by
       have:cF [c6 m.2.2.2.2.2.1,c6 m.2.2.2.2.1] k=(bI k m.2.2.2.2.2.1||bI k m.2.2.2.2.1):=by
        simp[cF,l1 an.to_,l1 an.from_]
       rw[this,Bool.or_eq_true];constructor
       ·rintro (h |h)
        ·exact .inl h
        ·exact .inr ⟨aE,h⟩
       ·rintro (h |⟨-,h⟩)
        ·exact .inl h
        ·exact .inr h)
      have dx:Ai ((-1:Int),l,m,c6 m.2.2.2.2.2.1,([c6 m.2.2.2.2.2.1]:List ah)++[c6 m.2.2.2.2.1],())=some (true,0,r,()):=e;have d4:decide (m.1=4)=true:=am aE;exact ⟨r,by simp only[dl,qw,Ah,d1,d2,d3,d4,cK,aA,aL,tr,ri,room,dx],az⟩
     ·obtain ⟨r,e,az⟩:=rest [c6 m.2.2.2.2.2.1] (by simp) (fun s au=>by
       obtain rfl:=List.mem_singleton.1 au;exact L5 _ an.to_) (fun k=>by
       rw[jK,l1 an.to_];constructor
       ·exact fun h=>.inl h
       ·rintro (h |⟨h,-⟩)
        ·exact h
        ·rw[aZ]at h;exact absurd h (by decide))
      have d4:decide (m.1=4)=false:=bj (by omega);have d5:decide (m.1=5)=true:=am aZ;exact ⟨r,by simp only[dl,qw,Ah,d1,d2,d3,d4,d5,cK,aA,aL,tr,e],az⟩
theorem Df {st:Option Int} {x:Src} {k:af}:(∃s2,iH st x=.old k s2)↔ ∃s1,x=.old k s1:=by
 cases x with
 |gen v n=>exact ⟨fun ⟨_,h⟩=>(by cases h),fun ⟨_,h⟩=>(by cases h)⟩
 |gone=>exact ⟨fun ⟨_,h⟩=>(by cases h),fun ⟨_,h⟩=>(by cases h)⟩
 |old k' gd=>
  constructor
  ·rintro ⟨s2,h⟩;injection h with aa ad
   exact ⟨gd,by rw[aa]⟩
  ·rintro ⟨s1,h⟩;injection h with aa ad
   exact ⟨st.or gd,by rw[aa];rfl⟩
theorem X1 (m:a6) (k:af): ∀(r:List a6) (bk:af),(∃st,eC (r++[m]) bk=.old k st)↔ ∃k' s1 s2,eC r bk=.old k' s1/\ek m k'=.old k s2
 |[],bk=>by
  show (∃st,eC [m] bk=.old k st)↔_;rw[show eC [m] bk=(match ek m bk with
   | .gen v n=>.gen v n
   | .gone=>.gone
   | .old k' st=>iH st (eC [] k')) from rfl]
  cases e:ek m bk with
  |gen v n=>
   constructor
   ·rintro ⟨_,h⟩;cases h
   ·rintro ⟨k',s1,s2,aa,ad⟩;injection aa with al aE
    rw[<-al,e]at ad;cases ad
  |gone=>
   constructor
   ·rintro ⟨_,h⟩;cases h
   ·rintro ⟨k',s1,s2,aa,ad⟩;injection aa with al aE
    rw[<-al,e]at ad;cases ad
  |old a1 st=>
   show (∃s,iH st (.old a1 none)=.old k s)↔_;rw[Df];constructor
   ·rintro ⟨s1,h⟩;injection h with al aE
    exact ⟨bk,none,st,rfl,by rw[e,al]⟩
   ·rintro ⟨k',s1,s2,aa,ad⟩;injection aa with al aE
    rw[<-al,e]at ad;injection ad with aZ bt
    exact ⟨none,by rw[aZ]⟩
 |a::r,bk=>by
  show (∃st,eC (a::(r++[m])) bk=.old k st)↔_;rw[Kw]
  conv=>rhs;rw[Kw]
  cases e:ek a bk with
  |gen v n=>
   constructor
   ·rintro ⟨_,h⟩;cases h
   ·rintro ⟨k',s1,s2,aa,ad⟩;cases aa
  |gone=>
   constructor
   ·rintro ⟨_,h⟩;cases h
   ·rintro ⟨k',s1,s2,aa,ad⟩;cases aa
  |old a1 st=>
   show (∃s,iH st (eC (r++[m]) a1)=.old k s)↔ ∃k' s1 s2,iH st (eC r a1)=.old k' s1/\ek m k'=.old k s2;rw[Df,X1 m k r a1];constructor
   ·rintro ⟨k',s1,s2,aa,ad⟩;obtain ⟨gE,al⟩:=Df.2 ⟨s1,aa⟩;exact ⟨k',gE,s2,al,ad⟩
   ·rintro ⟨k',s1,s2,aa,ad⟩;obtain ⟨gE,al⟩:=Df.1 ⟨s1,aa⟩;exact ⟨k',gE,s2,al,ad⟩
theorem hr.ends {m:a6} (h:hr m):m.2.2.2.1.1.length<=200/\m.2.2.2.1.2.1.length<=200:=by
 obtain ⟨q,k,v,f,t,s,n,rfl,aN,aQ,j6,pj⟩:=h.form;have LM:q=0\/q=1\/q=2\/q=3\/q=4\/q=5:=by omega
 rcases LM with rfl |rfl |rfl |rfl |rfl |rfl
 ·exact ⟨Nat.zero_le _,Nat.zero_le _⟩
 ·exact ⟨Nat.zero_le _,Nat.zero_le _⟩
 ·exact ⟨j6,pj⟩
 ·exact ⟨Nat.zero_le _,Nat.zero_le _⟩
 ·exact ⟨Nat.zero_le _,Nat.zero_le _⟩
 ·exact ⟨j6,pj⟩
theorem afZ {j:Nat} (h:j<13):4^j<100000000:=by
 have:4^j<=4^12:=Nat.pow_le_pow_right (by omega) (by omega);omega
theorem apm (s:ah) (l:List a6) (ao: ∀m∈l,hr m) (aQ:l.length<=13) (B:Nat) (au:s.1.length<=B/\s.2.1.length<=B) (cG:B<=5000) (qL:200<=B):
  ∃r,BH (s,l,())=some (r,())/\(∀k,cF r k=true↔ ∃bk st,bU s bk=true/\eC l.reverse bk=.old k st)/\r.length<=4^l.length/\ez (B+4*l.length) r:=by
 obtain ⟨n,ai,cC,dj,n3,n4⟩:=DK [s] (by simp) B (fun x aw=>by
  obtain rfl:=List.mem_singleton.1 aw;exact au)
 have b8:i64.wrap (((List.length l):Int)-1)=((l.length:Int)-1):=by rw[cR (by omega)]
 obtain ⟨z,aa,r,rfl,ad⟩:=bi (b:=yJ) (fun j (q:List ah)=>(((l.length:Int)-1-(j:Int)),(0:Int),l,q,())) l.length
  (fun j q=>(∀k,cF q k=true↔ ∃bk st,bU s bk=true/\eC (l.reverse.take j) bk=.old k st)/\q.length<=4^j/\ez (B+4*j) q/\l9 q)
  (fun z=> ∃r,z=.inr ((0:Int),l,r,())/\(∀k,cF r k=true↔ ∃bk st,bU s bk=true/\eC l.reverse bk=.old k st)/\r.length<=4^l.length/\ez (B+4*l.length) r) (by omega)
  (fun j ay q aN=>by
   left;obtain ⟨bh,bZ,da,c4⟩:=aN;obtain ⟨i,ab⟩: ∃i:Nat,l.length-1-j=i:=⟨_,rfl⟩;have sK:i<l.length:=by omega
   have Nh:j<l.reverse.length:=by rw[List.length_reverse];exact ay
   have NH:l.reverse[j]=l[i]:=by
    rw[List.getElem_reverse];congr 1
   have cW:((l.length:Int)-1-(j:Int))=(i:Int):=by omega
   have a7:(decide ((i:Int)>=(0:Int)))=true:=am (by omega);have aY:=fm i;have c3:(decide ((i:Int)<(List.length l:Int)))=true:=am (by omega);have fb:i64.wrap ((i:Int)-1)=((l.length:Int)-1-((j+1:Nat):Int)):=by rw[cR (by omega)];omega
   have hm:=ao _ (List.getElem_mem sK);have vO:=afZ (j:=j) (by omega);obtain ⟨r,g1,g2,g3,g4,g5⟩:=agb (i:Int) l[i] hm.ok (fun _=>hm.ends) q (by omega) (B+4*j) da (by omega) (by omega) c4;refine ⟨r,⟨fun k=> ?_,?_,?_,g5⟩,?_⟩
   ·rw[g2 k];have Ff:=fun bk=>X1 l[i] k (l.reverse.take j) bk
    rw[<-NH]at Ff ⊢;simp only[<-eZ Nh]at Ff;constructor
    ·rintro ⟨a1,st,al,aE⟩;obtain ⟨bk,ic,aZ,bt⟩:=(bh a1).1 al;obtain ⟨s2,dn⟩:=(Ff bk).2 ⟨a1,ic,st,bt,aE⟩;exact ⟨bk,s2,aZ,dn⟩
    ·rintro ⟨bk,st,al,aE⟩;obtain ⟨a1,s1,s2,aZ,bt⟩:=(Ff bk).1 ⟨st,aE⟩;exact ⟨a1,s2,(bh a1).2 ⟨bk,s1,al,aZ⟩,bt⟩
   ·rw[Nat.pow_succ];omega
   ·rw[show B+4*(j+1)=B+4*j+4 by omega];exact g4
   ·rw[cW];simp only[yJ,a7,aY,c3,aA,b7,bQ,cn sK,g1,dt,aL,fb])
  (fun q aN=>by
   obtain ⟨bh,bZ,da,c4⟩:=aN;have cW:((l.length:Int)-1-((l.length:Nat):Int))= -1:=by omega
   have ai:(decide ((-1:Int)>=(0:Int)))=false:=rfl;rw[List.take_of_length_le (by rw[List.length_reverse];exact Nat.le_refl _)]at bh;rw[cW];exact ⟨_,⟨q,rfl,bh,bZ,da⟩,by simp only[yJ,ai,aL]⟩) n ⟨fun k=>by
    rw[cC k,jK];constructor
    ·intro h;exact ⟨k,none,h,rfl⟩
    ·rintro ⟨bk,st,al,aE⟩;injection aE with aZ bt
     rw[<-aZ];exact al,by simpa using dj,by simpa using n4,n3⟩
 have dc:LY (((l.length:Int)-1),(0:Int),l,n,())=some (.inr ((0:Int),l,r,())):=by
  have:=aa;simp only[Int.natCast_zero,Int.sub_zero]at this;exact this
 refine ⟨r,?_,ad⟩;simp only[BH,ai,zd,Mk,b8,dc,cK,aA]
theorem Kt {t:List ak} {l:List a6} (au:cg bu t) (h: ∀m∈l,fL m) (ao:t.length<=1200000) (aQ:l.length<=13) {B:Nat} (cG:100<=B) (iL:B<=900) (av: ∀p∈t,p.1.length<=B) (i:Nat) (ab:i<=l.length):
  cg bu (fu t (l.take i))/\(fu t (l.take i)).length<100000000000/\ ∀p∈fu t (l.take i),p.1.length<1000:=by
 have ca: ∀m∈l.take i,fL m:=fun m hm=>h m (List.mem_of_mem_take hm)
 have hlen:(l.take i).length=i:=by rw[List.length_take];omega
 refine ⟨xX au _,?_,fun p aP=> ?_⟩
 ·have aa:=Yw (l.take i) t;rw[hlen]at aa;have ad:2^i<=2^13:=Nat.pow_le_pow_right (by omega) (by omega);have al:2^i*(t.length+1)<=2^13*1200001:=Nat.mul_le_mul ad (by omega);omega
 ·have:=X6 ca au cG av p aP;omega
theorem ae7 {t:List ak} {l:List a6} (au:cg bu t) (h: ∀m∈l,fL m) (ao:t.length<=1200000) (aQ:l.length<=13) {B:Nat} (cG:100<=B) (iL:B<=900) (av: ∀p∈t,p.1.length<=B):
  uH (t,l,())=some (fu t l,()):=by
 obtain ⟨z,aa,rfl⟩:=bi (b:=BJ) (fun i (q:List ak)=>(q,l,(l.length:Int),(i:Int),())) l.length (fun i q=>q=fu t (l.take i)) (fun z=>z=.inl (fu t l,())) (by omega)
  (fun i ab q aN=>by
   left;have ai:=gw (i:=i) (l:=l) (by omega);have b8:(decide ((0:Int)<=((i:Nat):Int)))=true:=am (by omega);have w:=fi (j:=i) (by omega);obtain ⟨en,a2,a3⟩:=Kt au h ao aQ cG iL av i (by omega);rw[<-aN]at en a2 a3;have aq:=(Yy q l[i] (h _ (List.getElem_mem ab)) en a2 a3).1;refine ⟨ht q l[i],by rw[aN,eZ ab,Ks],?_⟩;simp only[BJ,ai,b8,b7,aA,bQ,cn ab,aq,w])
  (fun q aN=>by
   have ai:=hy l;rw[List.take_length]at aN;exact ⟨_,rfl,by simp only[BJ,ai,aL,aN]⟩) t rfl
 have dc:JY (t,l,(l.length:Int),(0:Int),())=some (.inl (fu t l,())):=aa;simp only[uH,dc]
abbrev ur:Type:=((bq)×(ah)×(List (ah))×(bN)×(Int)×Unit)->Option ((List (ak))×(bN)×(Int)×Unit)
theorem an4 (r:ur) (id:Int) (s:ah) (l:List ah) (p:bN) (found out:List ak) (ao:out.length+found.length<=1000000000000):
  vn r ((found.length:Int),(0:Int),(0:Int),id,s,l,p,(0:Int),found,out,())=some (.inr ((0:Int),id,s,l,p,(0:Int),out++found,())):=by
 obtain ⟨z,aa,rfl⟩:=bi (b:=qt r) (fun i (q:List ak)=>((found.length:Int),(i:Int),(0:Int),id,s,l,p,(0:Int),found,q,())) found.length (fun i q=>q=out++found.take i) (fun z=>z=.inr ((0:Int),id,s,l,p,(0:Int),out++found,())) (by omega)
  (fun i ab q aN=>by
   left;have ai:=gw (i:=i) (l:=found) (by omega);have b8:(decide ((0:Int)<=((i:Nat):Int)))=true:=am (by omega);have w:=fi (j:=i) (by omega);have room:(decide ((List.length q+List.length ([found[i]]:List (ak)))*40<=bm))=true:=am (by rw[dV,aN];simp;omega);refine ⟨q++[found[i]],by rw[aN,eZ ab,List.append_assoc],?_⟩;simp only[qt,ER,ES,ai,b8,b7,aA,bQ,cn ab,cK,dt,dr,aL,room,w])
  (fun q aN=>by
   have ai:=hy found;rw[List.take_length]at aN;exact ⟨_,rfl,by simp only[qt,ai,aL,aN]⟩) out (by simp)
 exact aa
theorem anl (r:ur) (id:Int) (s:ah) (l:List ah) (p:bN) (found out:List ak) (e:Int) (he:e≠0):
  vn r ((found.length:Int),(0:Int),(0:Int),id,s,l,p,e,found,out,())=some (.inl ((0:Int),id,s,l,p,e,out,()))\/
  vn r ((found.length:Int),(0:Int),(0:Int),id,s,l,p,e,found,out,())=some (.inr ((0:Int),id,s,l,p,e,out,())):=by
 cases found with
 |nil=>
  right;exact lp (n:=1) (by rw[jM];omega) (by
   have ai:(decide ((0:Int)<((List.length ([]:List ak)):Int)))=false:=rfl;simp only[dR,qt,ai,aL])
 |cons x found=>
  left;exact lp (n:=1) (by rw[jM];omega) (by
   have ai:(decide ((0:Int)<((List.length (x::found)):Int)))=true:=am (by rw[List.length_cons];omega);have aq:(decide (e=0))=false:=bj he;simp only[dR,qt,ER,ai,aq,Int.le_refl,cK,b7,aA,dr,dt,aL])
theorem YL (r:ur) (id:Int) (s:ah) (l:List ah) (p:bN) (t out:List ak) (e:Int) (aU:t.length<100000000000) (an:out.length<=100000000000) (ao:l.length<=100000000000000000):
  vm r (t,(0:Int),id,s,l,p,e,out,())=some ((0:Int),id,s,l,p,e,out++(if e=0 then t.filter (di l) else []),()):=by
 have ai:=Kz t l (by omega) ao;have aJ:(t.filter (di l)).length<=t.length:=List.length_filter_le _ _;by_cases he:e=0
 ·subst he;rw[if_pos rfl];have aq:=an4 r id s l p (t.filter (di l)) out (by omega);simp only[vm,ai,aq]
 ·rw[if_neg he,List.append_nil];rcases anl r id s l p (t.filter (di l)) out e he with aq |aq
  ·simp only[vm,ai,aq]
  ·simp only[vm,ai,aq]
def qh (e:Int):Prop:=e=0\/e=112
def iV (buf:List a6) (L:af->Prop):af->Prop:=fun k=> ∃bk st,L bk/\eC buf.reverse bk=.old k st
def hF (l:List ah):af->Prop:=fun k=>cF l k=true
def Y3 (r:ur) (p:bN) (i:Nat) (s:ah) (c:List ak) (tZ:(af->Prop)->Prop) (B M:Nat):Prop:=
 ∀(l:List ah) (e:Int) (out:List ak),l.length<=M->ez B l->qh e->out.length<=10000000000->
  ∃dx,qs r ((0:Int),(i:Int),s,l,p,e,out,())=some ((0:Int),(i:Int),s,l,p,dx,out++(if dx=0 then c.filter (di l) else []),())/\qh dx/\(e≠0->dx≠0)/\(e=0->(dx≠0↔tZ (hF l)))
theorem afB (r:ur) (N:bq) (s:ah) (l:List ah) (p:bN) (e:Int) (B M:Nat) (ag: ∀m∈N.2.2.2.2.1,hr m) (aQ:N.2.2.2.2.1.length<=13) (ao:l.length<=M) (cG:ez B l) (iL:B<=5000) (qL:200<=B) (m9:M*4^N.2.2.2.2.1.length<=100000000000):
  ∃dJ,mt r ([],l,(l.length:Int),(0:Int),p,e,N,s,[],())=some (.inl ([],p,e,N,s,dJ,()))/\dJ.length<=M*4^N.2.2.2.2.1.length/\ez (B+4*N.2.2.2.2.1.length) dJ/\ ∀k,cF dJ k=true↔iV N.2.2.2.2.1 (hF l) k:=by
 have aP:1<=4^N.2.2.2.2.1.length:=Nat.one_le_pow _ _ (by omega);have aar:M*1<=M*4^N.2.2.2.2.1.length:=Nat.mul_le_mul_left _ aP;obtain ⟨z,aa,dJ,rfl,ad⟩:=bi (b:=vy r) (fun i (q:List ah)=>(([]:List ak),l,(l.length:Int),(i:Int),p,e,N,s,q,())) l.length
  (fun i q=>q.length<=i*4^N.2.2.2.2.1.length/\ez (B+4*N.2.2.2.2.1.length) q/\ ∀k,cF q k=true↔iV N.2.2.2.2.1 (hF (l.take i)) k)
  (fun z=> ∃dJ,z=.inl ([],p,e,N,s,dJ,())/\dJ.length<=M*4^N.2.2.2.2.1.length/\ez (B+4*N.2.2.2.2.1.length) dJ/\ ∀k,cF dJ k=true↔iV N.2.2.2.2.1 (hF l) k) (by omega)
  (fun i ab q aN=>by
   left;obtain ⟨bh,bZ,da⟩:=aN;have ai:=gw (i:=i) (l:=l) (by omega);have b8:(decide ((0:Int)<=((i:Nat):Int)))=true:=am (by omega);have w:=fi (j:=i) (by omega);have lO:=List.getElem_mem ab;obtain ⟨a,en,a2,a3,a4⟩:=apm l[i] N.2.2.2.2.1 ag aQ B (cG _ lO) iL qL;have arf:(i+1)*4^N.2.2.2.2.1.length<=M*4^N.2.2.2.2.1.length:=Nat.mul_le_mul_right _ (by omega);rw[Nat.add_mul,Nat.one_mul]at arf;have room:(decide ((List.length q+List.length a)*32<=bm))=true:=am (by rw[dV];omega);refine ⟨q++a,⟨by rw[List.length_append,Nat.add_mul,Nat.one_mul];omega,fun s au=> ?_,fun k=> ?_⟩,?_⟩
   ·rcases List.mem_append.1 au with h |h
    ·exact bZ s h
    ·exact a4 s h
   ·rw[l2,Bool.or_eq_true,da k,a2 k];have iP: ∀k,cF (l.take (i+1)) k=(cF (l.take i) k||bU l[i] k):=by
     intro k;rw[eZ ab,l2,jK]
    constructor
    ·rintro (⟨bk,st,al,aE⟩|⟨bk,st,al,aE⟩)
     ·exact ⟨bk,st,by unfold hF at al ⊢;rw[iP,al];rfl,aE⟩
     ·exact ⟨bk,st,by unfold hF;rw[iP,al,Bool.or_true],aE⟩
    ·rintro ⟨bk,st,al,aE⟩;unfold hF at al;rw[iP,Bool.or_eq_true]at al;rcases al with al |al
     ·exact .inl ⟨bk,st,al,aE⟩
     ·exact .inr ⟨bk,st,al,aE⟩
   ·simp only[vy,ai,b8,b7,aA,bQ,cn ab,en,room,w])
  (fun q aN=>by
   obtain ⟨bh,bZ,da⟩:=aN;have ai:=hy l;rw[List.take_length]at da;have:l.length*4^N.2.2.2.2.1.length<=M*4^N.2.2.2.2.1.length:=Nat.mul_le_mul_right _ ao;exact ⟨_,⟨q,rfl,by omega,bZ,da⟩,by simp only[vy,ai,aL]⟩) [] ⟨by simp,fun s au=>(by cases au),fun k=>(by
    constructor
    ·intro h;simp[cF]at h
    ·rintro ⟨bk,st,al,aE⟩;simp[hF,cF]at al)⟩
 exact ⟨dJ,aa,ad⟩
def qi (L:af->Prop) (q:ah):Prop:= ∃k,L k/\bU q k=true
theorem anO (dJ:List ah) (q:ah):(dJ.any fun w=>iD w q)=true↔qi (hF dJ) q:=by
 rw[List.any_eq_true];constructor
 ·rintro ⟨w,hw,h⟩;obtain ⟨k,aa,ad⟩:=yi.1 h;exact ⟨k,List.any_eq_true.2 ⟨w,hw,aa⟩,ad⟩
 ·rintro ⟨k,aa,ad⟩;obtain ⟨w,hw,al⟩:=List.any_eq_true.1 aa;exact ⟨w,hw,yi.2 ⟨k,al,ad⟩⟩
theorem Xo (r:ur) (p:bN) (N:bq) (s:ah) (parts:List ah) (ks:List Nat) (C:Nat->List ak) (tZ:Nat->ah->(af->Prop)->Prop) (B M:Nat)
  (av:N.2.2.1=dM ks) (aP:parts.length=ks.length) (jf:1<=ks.length) (avg:ks.length<=6) (sU:pO (s,N.2.1,())=some (parts,())) (ag: ∀m∈N.2.2.2.2.1,hr m) (aQ:N.2.2.2.2.1.length<=13)
  (iL:B<=5000) (qL:200<=B) (m9:M*4^N.2.2.2.2.1.length<=100000000000)
  (dg: ∀j,j<ks.length->nE (List.getD parts j cO) (C (ks.getD j 0))/\(C (ks.getD j 0)).length<=200000)
  (az: ∀j,j<ks.length->Y3 r p (ks.getD j 0) (List.getD parts j cO) (C (ks.getD j 0)) (tZ (ks.getD j 0) (List.getD parts j cO)) (B+4*N.2.2.2.2.1.length) (M*4^N.2.2.2.2.1.length))
  (l:List ah) (e:Int) (ao:l.length<=M) (cG:ez B l) (he:qh e):
  ∃dJ dx j,ii r (N,s,l,p,e,())=some (((ks.take j).flatMap C).filter (di dJ),p,dx,())/\(∀k,cF dJ k=true↔iV N.2.2.2.2.1 (hF l) k)/\qh dx/\j<=ks.length/\(dx=0->j=ks.length)/\(e≠0->dx≠0)/\
   (e=0->(dx≠0↔ ∃j,j<ks.length/\qi (iV N.2.2.2.2.1 (hF l)) (List.getD parts j cO)/\tZ (ks.getD j 0) (List.getD parts j cO) (iV N.2.2.2.2.1 (hF l)))):=by
 obtain ⟨dJ,cC,dj,n3,n4⟩:=afB r N s l p e B M ag aQ ao cG iL qL m9;have jI:hF dJ=iV N.2.2.2.2.1 (hF l):=by
  funext k
  exact propext (n4 k)
 have bX:N.2.2.1≠[]:=by rw[av];exact afw (by omega)
 have E8:=alf bX sU;have aqx: ∀j,j<=ks.length->((ks.take j).flatMap C).length<=j*200000:=by
  intro j ay;have:=Kg ((ks.take j).map C) 200000 (by
   intro a aR;obtain ⟨k,av,rfl⟩:=List.mem_map.1 aR;obtain ⟨i,ab,rfl⟩:=List.mem_iff_getElem.1 av;rw[List.length_take]at ab;rw[List.getElem_take];have:=(dg i (by omega)).2;rw[cn (by omega)]at this;exact this)
  rw[List.length_map,List.length_take,Nat.min_eq_left ay]at this;rw[List.flatMap_def];exact this
 obtain ⟨z,aa,dx,j,rfl,ad,al,aE,aZ,bt⟩:=bi (b:=sF r) (fun i (q:Int×List ak)=>(([]:List ak),(parts.length:Int),(i:Int),p,q.1,N,dJ,parts,q.2,())) parts.length
  (fun i q=> ∃j,j<=i/\q.2=((ks.take j).flatMap C).filter (di dJ)/\qh q.1/\(q.1=0->j=i)/\(e≠0->q.1≠0)/\(e=0->(q.1≠0↔ ∃j,j<i/\qi (iV N.2.2.2.2.1 (hF l)) (List.getD parts j cO)/\tZ (ks.getD j 0) (List.getD parts j cO) (iV N.2.2.2.2.1 (hF l)))))
  (fun z=> ∃dx j,z=.inr (p,dx,((ks.take j).flatMap C).filter (di dJ),())/\qh dx/\j<=ks.length/\(dx=0->j=ks.length)/\(e≠0->dx≠0)/\(e=0->(dx≠0↔ ∃j,j<ks.length/\qi (iV N.2.2.2.2.1 (hF l)) (List.getD parts j cO)/\tZ (ks.getD j 0) (List.getD parts j cO) (iV N.2.2.2.2.1 (hF l))))) (by omega)
  (fun i ab q aN=>by
   left;obtain ⟨kt,out⟩:=q;obtain ⟨j,Oa,dQ,s3,s4,s5,pz⟩:=aN;simp only at dQ s3 s4 s5 pz;have lh:i<ks.length:=by omega
   have ai:=gw (i:=i) (l:=parts) (by omega);have b8:(decide ((0:Int)<=((i:Nat):Int)))=true:=am (by omega);have w:=fi (j:=i) (by omega);have EY:=amx dJ parts[i] (by omega);have Ns:=anO dJ parts[i];rw[jI]at Ns;have vM:List.getD parts i cO=parts[i]:=cn ab;cases EW:(dJ.any fun w=>iD w parts[i])
   ·rw[EW]at EY;have E7: ¬qi (iV N.2.2.2.2.1 (hF l)) parts[i]:=fun h=>by
     have:=Ns.2 h;rw[EW]at this;cases this
    refine ⟨(kt,out),?_,?_⟩
    ·by_cases mA:kt=0
     ·refine ⟨i+1,by omega,?_,s3,fun _=>rfl,s5,fun h=> ?_⟩
      ·rw[s4 mA]at dQ;have E6:(C ks[i]).filter (di dJ)=[]:=by
        rw[List.filter_eq_nil_iff];intro x aw h;have:=(dg i lh).1;rw[cn lh,vM]at this;exact E7 ⟨x.1,by rw[<-jI];exact h,this x aw⟩
       rw[eZ lh,List.flatMap_append,List.filter_append];simp only[List.flatMap_cons,List.flatMap_nil,List.append_nil,E6];exact dQ
      ·rw[pz h];constructor
       ·rintro ⟨gY,a,b⟩;exact ⟨gY,by omega,b⟩
       ·rintro ⟨gY,a,b,c⟩;rcases Nat.lt_succ_iff_lt_or_eq.1 a with a |a
        ·exact ⟨gY,a,b,c⟩
        ·subst a;rw[vM]at b;exact absurd b E7
     ·refine ⟨j,by omega,dQ,s3,fun h=>absurd h mA,s5,fun h=> ?_⟩;constructor
      ·intro _;obtain ⟨gY,a,b⟩:=(pz h).1 mA;exact ⟨gY,by omega,b⟩
      ·exact fun _=>mA
    ·simp only[sF,ai,b8,b7,aA,bQ,cn ab,EY,dr,w]
   ·rw[EW]at EY;have hm:qi (iV N.2.2.2.2.1 (hF l)) parts[i]:=Ns.1 EW;have Ny:out.length<=10000000000:=by
     rw[dQ];have a:=List.length_filter_le (di dJ) ((ks.take j).flatMap C);have b:=aqx j (by omega);omega
    obtain ⟨aq,f1,f2,f3,f4⟩:=az i lh dJ kt out dj n3 s3 Ny;rw[cn lh,vM]at f1 f4;rw[jI]at f4;have bb:(decide (((i:Nat):Int)<((List.length N.2.2.1):Int)))=true:=am (by rw[av,iK];omega);have bx:List.getD N.2.2.1 i 0=((ks[i]:Nat):Int):=by rw[av,tE lh]
    refine ⟨(aq,out++(if aq=0 then (C ks[i]).filter (di dJ) else [])),?_,?_⟩
    ·by_cases kD:aq=0
     ·have mA:kt=0:=by
       rcases Classical.em (kt=0) with h |h
       ·exact h
       ·exact absurd kD (f3 h)
      refine ⟨i+1,by omega,?_,f2,fun _=>rfl,fun h=>absurd mA (s5 h),fun h=> ?_⟩
      ·rw[s4 mA]at dQ;rw[eZ lh,List.flatMap_append,List.filter_append,if_pos kD,dQ];simp only[List.flatMap_cons,List.flatMap_nil,List.append_nil]
      ·constructor
       ·intro ca;exact absurd kD ca
       ·rintro ⟨gY,a,b,c⟩;rcases Nat.lt_succ_iff_lt_or_eq.1 a with a |a
        ·exact absurd mA ((pz h).2 ⟨gY,a,b,c⟩)
        ·subst a;rw[cn lh,vM]at c;exact absurd kD ((f4 mA).2 c)
     ·refine ⟨j,by omega,?_,f2,fun h=>absurd h kD,fun _=>kD,fun h=> ?_⟩
      ·show out++(if aq=0 then _ else [])=_;rw[if_neg kD,List.append_nil];exact dQ
      ·constructor
       ·intro _;by_cases mA:kt=0
        ·refine ⟨i,by omega,by rw[vM];exact hm,?_⟩;rw[cn lh,vM];exact (f4 mA).1 kD
        ·obtain ⟨gY,a,b⟩:=(pz h).1 mA;exact ⟨gY,by omega,b⟩
       ·exact fun _=>kD
    ·simp only[sF,ai,b8,b7,aA,bQ,cn ab,EY,dt,aL,bb,bx,o5,f1,cK,w])
  (fun q aN=>by
   obtain ⟨kt,out⟩:=q;obtain ⟨j,Oa,dQ,s3,s4,s5,pz⟩:=aN;simp only at dQ s3 s4 s5 pz;have ai:=hy parts;rw[aP]at Oa s4 pz;exact ⟨_,⟨kt,j,by rw[<-dQ],s3,Oa,s4,s5,pz⟩,by simp only[sF,ai,aL]⟩) (e,[]) ⟨0,Nat.le_refl _,by simp,he,fun _=>rfl,id,fun h=>⟨fun ca=>absurd h ca,fun ⟨j,a,_⟩=>absurd a (by omega)⟩⟩
 have dc:Fw r ([],(parts.length:Int),(0:Int),p,e,N,dJ,parts,[],())=some (.inr (p,dx,((ks.take j).flatMap C).filter (di dJ),())):=aa;refine ⟨dJ,dx,j,?_,n4,ad,al,aE,aZ,bt⟩;simp only[ii,cC,E8,dc]
theorem X0 {low:List ak} {dJ l:List ah} {buf:List a6} (au:cg bu low) (ag: ∀m∈buf,fL m) (aQ: ∀k,cF dJ k=true↔iV buf (hF l) k):
  (fu (low.filter (di dJ)) buf).filter (di l)=(fu low buf).filter (di l):=by
 have pj:cg bu (low.filter (di dJ)):=List.Pairwise.filter _ au;refine uM (List.Pairwise.filter _ (xX pj buf)) (List.Pairwise.filter _ (xX au buf)) (fun x=> ?_);rw[List.mem_filter,List.mem_filter];constructor
 ·rintro ⟨aa,ad⟩;refine ⟨(X7 pj au ag x (fun k st av y bf=> ?_)).1 aa,ad⟩;rw[List.mem_filter];refine ⟨fun h=>h.1,fun h=>⟨h,?_⟩⟩;show cF dJ y.1=true;rw[bf];exact (aQ k).2 ⟨x.1,st,ad,av⟩
 ·rintro ⟨aa,ad⟩;refine ⟨(X7 pj au ag x (fun k st av y bf=> ?_)).2 aa,ad⟩;rw[List.mem_filter];refine ⟨fun h=>h.1,fun h=>⟨h,?_⟩⟩;show cF dJ y.1=true;rw[bf];exact (aQ k).2 ⟨x.1,st,ad,av⟩
def u1 (p:bN) (ns:List bq) (b x:Nat):Prop:= ∀i n,i<b->ns[i]? =some n->j9 (p,(i:Int),())=some (if i=x then (ul,112,()) else (n,0,()))
def mZ (ns:List bq) (i:Nat):List a6:=(List.getD ns i ul).2.2.2.2.1
def yp (ns:List bq) (i j:Nat):Nat:=(List.getD (List.getD ns i ul).2.2.1 j 0).toNat
def sr (ns:List bq) (x:Nat):List (List af)->ah->Nat->(af->Prop)->Prop
 |[],_,i,_=>i=x
 |P::pv,s,i,L=>i=x\/ ∃j,j<(partsOf s (cl P s)).length/\qi (iV (mZ ns i) L) (List.getD (partsOf s (cl P s)) j cO)/\sr ns x pv (List.getD (partsOf s (cl P s)) j cO) (yp ns i j) (iV (mZ ns i) L)
theorem tU {ns:List bq} {i:Nat} {p:List ak} {piv:List af} {ks:List Nat} {sums:List dY} {buf:List a6} (h:ns[i]? =some (p,piv,dM ks,sums,buf,())) {j:Nat} (ay:j<ks.length):yp ns i j=ks.getD j 0:=by
 unfold yp;rw[ow h];show (List.getD (dM ks) j 0).toNat=_;rw[tE ay,cn ay];rfl
theorem KL {ns:List bq} {i:Nat} {n:bq} (h:ns[i]? =some n):mZ ns i=n.2.2.2.2.1:=by
 unfold mZ;rw[ow h]
theorem Yr (ns:List bq) (pv:List (List af)) (ks:List Nat) (j:Nat) (dJ:List ah):(((ks.take j).flatMap fun k=>cont ns pv k).filter (di dJ)).Sublist (low ns pv ks):=by
 refine List.Sublist.trans List.filter_sublist ?_;unfold low;have:ks=ks.take j++ks.drop j:=(List.take_append_drop j ks).symm
 conv=>rhs;rw[this]
 rw[List.flatMap_append];exact List.sublist_append_left _ _
theorem JS {d:Nat} (h:d<=1):clen d<=192032:=by
 rcases Nat.le_one_iff_eq_zero_or_eq_one.1 h with rfl |rfl
 ·decide
 ·decide
structure k1 (ns:List bq) (t:List ak) (pv:List (List af)) (s:ah) (i:Nat):Prop where
 tree:gv ns t pv s i
 five: ∀q∈pv,q.length<=5
 srt: ∀P∈pv,P.Pairwise fun a b=>Op.bytesLess a b=true
 gx:o7 pv s=true
 gs:qJ pv s=true
structure lD (t:List ak):Prop where
 srt:cg bu t
 len:t.length<=1000
 key: ∀p∈t,p.1.length<=100
theorem k1.cont {ns:List bq} {t:List ak} {pv:List (List af)} {s:ah} {i:Nat} (aU:lD t) (h:k1 ns t pv s i):DP s pv.length (D.cont ns pv i):=
 gv.cont_ok aU.srt aU.len aU.key h.five h.srt h.gx h.tree
structure rS (ns:List bq) (t:List ak) (P:List af) (pv:List (List af)) (s:ah) (N:bq) (ks:List Nat):Prop where
 kids:N.2.2.1=dM ks
 piv:N.2.1=cl P s
 parts:(partsOf s (cl P s)).length=ks.length
 one:1<=ks.length
 six:ks.length<=6
 span:pO (s,N.2.1,())=some (partsOf s (cl P s),())
 buf: ∀m∈N.2.2.2.2.1,hr m
 few:N.2.2.2.2.1.length<=13
 good: ∀j,j<ks.length->k1 ns t pv (List.getD (partsOf s (cl P s)) j cO) (ks.getD j 0)
 low:cg bu (low ns pv ks)/\nE s (D.low ns pv ks)/\(D.low ns pv ks).length<=6*clen pv.length/\ ∀p∈D.low ns pv ks,p.1.length<=100+20*pv.length
theorem k1.inner {ns:List bq} {t:List ak} {P:List af} {pv:List (List af)} {s:ah} {i:Nat} (aU:lD t) (h:k1 ns t (P::pv) s i):
  ∃ks sums buf,ns[i]? =some ([],cl P s,dM ks,sums,buf,())/\rS ns t P pv s ([],cl P s,dM ks,sums,buf,()) ks/\buf.length<=5/\(∀k∈ks,k<i)/\ks.Nodup/\(∀m∈buf,kc (m,s,())=some (true,())):=by
 obtain ⟨ks,sums,buf,aa,ad,al,aE,aZ,bt,dn,hX⟩:=h.tree;obtain ⟨g1,g2⟩:=Dn h.gx;obtain ⟨a1,k2⟩:=amE h.gs;have iO:(cl P s).length<=5:=Nat.le_trans (xS P s) (h.five P List.mem_cons_self);have lT:(partsOf s (cl P s)).length=ks.length:=by rw[g1,r4,ad]
 have good: ∀j,j<ks.length->k1 ns t pv (List.getD (partsOf s (cl P s)) j cO) (ks.getD j 0):=by
  intro j ay;have fP:j<(partsOf s (cl P s)).length:=by omega
  refine ⟨(hX j ay).1,fun q aN=>h.five q (List.mem_cons_of_mem _ aN),fun q aN=>h.srt q (List.mem_cons_of_mem _ aN),?_,?_⟩
  ·rw[cn fP];exact (g2 _ (List.getElem_mem fP)).2
  ·rw[cn fP];exact k2 _ (List.getElem_mem fP)
 refine ⟨ks,sums,buf,aa,⟨rfl,rfl,lT,by omega,by omega,a1,fun m hm=>(dn m hm).1,by show buf.length<=13;omega,good,?_⟩,bt,aZ,aE,fun m hm=>(dn m hm).2⟩;exact ZD lT.symm (by omega) (by rw[g1];exact La _ _ _ Lg (Dv (h.srt P List.mem_cons_self) s)) (fun q aN=>(g2 q aN).1) (fun j ay=>(good j ay).cont aU)
theorem rS.contents {ns:List bq} {t:List ak} {P:List af} {pv:List (List af)} {s:ah} {N:bq} {ks:List Nat} (aU:lD t) (ax:pv.length<=1) (h:rS ns t P pv s N ks):
  ∀j,j<ks.length->nE (List.getD (partsOf s (cl P s)) j cO) (D.cont ns pv (ks.getD j 0))/\(D.cont ns pv (ks.getD j 0)).length<=200000:=by
 intro j ay;have:=(h.good j ay).cont aU;have ad:=JS ax;have al:=this.len;exact ⟨this.sp,by omega⟩
theorem rS.all {ns:List bq} {t:List ak} {P:List af} {pv:List (List af)} {s:ah} {N:bq} {ks:List Nat} (ax:pv.length<=1) (h:rS ns t P pv s N ks) (j:Nat) (dJ:List ah):
  uH (((ks.take j).flatMap fun k=>D.cont ns pv k).filter (di dJ),N.2.2.2.2.1,())=some (fu (((ks.take j).flatMap fun k=>D.cont ns pv k).filter (di dJ)) N.2.2.2.2.1,())/\(fu (((ks.take j).flatMap fun k=>D.cont ns pv k).filter (di dJ)) N.2.2.2.2.1).length<100000000000:=by
 obtain ⟨dd,cM,nu,pB⟩:=h.low;have pk:=Yr ns pv ks j dJ;have aB:=JS ax;have au:cg bu (((ks.take j).flatMap fun k=>D.cont ns pv k).filter (di dJ)):=List.Pairwise.sublist pk dd;have ao:=pk.length_le;have ag: ∀m∈N.2.2.2.2.1,fL m:=fun m hm=>(h.buf m hm).ok
 have av: ∀p∈((ks.take j).flatMap fun k=>D.cont ns pv k).filter (di dJ),p.1.length<=140:=fun p aP=>by
  have:=pB p (pk.subset aP);omega
 refine ⟨ae7 au ag (by omega) h.few (B:=140) (by omega) (by omega) av,?_⟩;have:=(Kt au ag (by omega) h.few (B:=140) (by omega) (by omega) av N.2.2.2.2.1.length (Nat.le_refl _)).2.1;rw[List.take_length]at this;exact this
theorem Xz {ns:List bq} {t:List ak} (aU:lD t) {p:bN} {b x:Nat} (aP:u1 p ns b x): ∀(pv:List (List af)) (s:ah) (i:Nat),pv.length<=2->k1 ns t pv s i->i<b->
  ∀(n B M:Nat),pv.length<=n->B+20*pv.length<=4000->200<=B->M*1024^pv.length<=100000000000->Y3 (o1 n) p i s (D.cont ns pv i) (sr ns x pv s i) B M
 |[],s,i,ax,bH,gV=>by
  intro n B M aQ aal iL m9 l e out ao cG he an;have aa:ns[i]? =some (inS s t,[],[],[],[],()):=bH.tree;have bo:=aP i _ gV aa;have aB:D.cont ns [] i=inS s t:=by
   show (List.getD ns i ul).1=_;rw[ow aa]
  by_cases aw:i=x
  ·rw[if_pos aw]at bo;refine ⟨112,?_,.inr rfl,fun _=>by decide,fun _=>⟨fun _=>aw,fun _=>by decide⟩⟩;have ai:(decide ((112:Int)=0))=false:=rfl;rw[if_neg (by decide),List.append_nil];simp only[qs,bo,ai,dr,aA]
  ·rw[if_neg aw]at bo;refine ⟨e,?_,he,id,fun h=>⟨fun ca=>absurd h ca,fun ca=>absurd ca aw⟩⟩;have hlen:=qd s t;have zW:=aU.len;have aaq:M<=100000000000:=by simpa using m9
   have aq:=YL (o1 n) (i:Int) s l p (inS s t) out e (by omega) (by omega) (by omega);have bb:(decide ((((List.length ([]:List Int)):Int):Int)=(0:Int)))=true:=rfl;rw[aB];simp only[qs,bo,cK,dt,aL,ox,bb,aq]
 |P::pv,s,i,ax,bH,gV=>by
  intro n B M aQ aal iL m9 l e out ao cG he an;obtain ⟨ks,sums,buf,aa,dp,pa,a8,-⟩:=bH.inner aU;have bo:=aP i _ gV aa;have kB:pv.length<=1:=by simp at ax;omega
  have aB:=BS (ns:=ns) P pv aa;obtain ⟨n,rfl⟩: ∃k,n=k+1:=⟨n-1,by simp at aQ;omega⟩;by_cases aw:i=x
  ·rw[if_pos aw]at bo;refine ⟨112,?_,.inr rfl,fun _=>by decide,fun _=>⟨fun _=>.inl aw,fun _=>by decide⟩⟩;have ai:(decide ((112:Int)=0))=false:=rfl;rw[if_neg (by decide),List.append_nil];simp only[qs,bo,ai,dr,aA]
  ·rw[if_neg aw]at bo;simp only[List.length_cons]at aal aQ m9;have aE:4^buf.length<=1024:=by
    have:4^buf.length<=4^5:=Nat.pow_le_pow_right (by omega) pa;omega
   have aar:M*4^buf.length<=M*1024:=Nat.mul_le_mul_left _ aE;have apZ:M*4^buf.length*1024^pv.length<=100000000000:=by
    refine Nat.le_trans (Nat.mul_le_mul_right _ aar) ?_;rw[Nat.mul_assoc,show 1024*1024^pv.length=1024^(pv.length+1) by rw[Nat.pow_succ,Nat.mul_comm]];exact m9
   have ap0:M*4^buf.length<=100000000000:=by
    have:M*4^buf.length*1<=M*4^buf.length*1024^pv.length:=Nat.mul_le_mul_left _ (Nat.one_le_pow _ _ (by omega));omega
   have kids:=fun j (ay:j<ks.length)=>Xz aU aP pv (List.getD (partsOf s (cl P s)) j cO) (ks.getD j 0) (by omega) (dp.good j ay) (by
    have:ks.getD j 0<i:=a8 _ (by rw[cn ay];exact List.getElem_mem ay);omega) n (B+4*buf.length) (M*4^buf.length) (by omega) (by omega) (by omega) apZ
   obtain ⟨dJ,dx,j,f1,f2,f3,f4,f5,f6,f7⟩:=Xo (o1 n) p _ s _ ks (fun k=>D.cont ns pv k) (fun k q L=>sr ns x pv q k L) B M dp.kids dp.parts dp.one dp.six dp.span dp.buf dp.few (by omega) iL ap0 (dp.contents aU kB) kids l e ao cG he;obtain ⟨g1,g2⟩:=dp.all kB j dJ;have aaq:l.length<=100000000000000000:=by
    have:M*1<=M*4^buf.length:=Nat.mul_le_mul_left _ (Nat.one_le_pow _ _ (by omega));omega
   have g3:=YL (o1 (n+1)) (i:Int) s l p _ out dx g2 (by omega) aaq;refine ⟨dx,?_,f3,f6,fun h=> ?_⟩
   ·have bb:(decide ((((List.length (dM ks)):Int):Int)=(0:Int)))=false:=bj (by have:=dp.one;rw[iK];omega);have zg:o1 (n+1) (([],cl P s,dM ks,sums,buf,()),s,l,p,e,())=_:=f1;have aqK:(if dx=0 then (D.cont ns (P::pv) i).filter (di l) else [])=(if dx=0 then (fu (((ks.take j).flatMap fun k=>D.cont ns pv k).filter (di dJ)) buf).filter (di l) else []):=by
     by_cases iu:dx=0
     ·rw[if_pos iu,if_pos iu,aB,f5 iu,List.take_length];exact (X0 (low:=low ns pv ks) dp.low.1 (fun m hm=>(dp.buf m hm).ok) f2).symm
     ·rw[if_neg iu,if_neg iu]
    rw[aqK];simp only[qs,bo,cK,dt,aL,ox,bb,dr,aA,zg,g1,g3]
   ·rw[f7 h];have nc:mZ ns i=buf:=KL aa;constructor
    ·rintro ⟨j,a,b,c⟩;refine .inr ⟨j,by rw[dp.parts];exact a,?_,?_⟩
     ·rw[nc];exact b
     ·rw[nc,tU aa a];exact c
    ·rintro (ca |⟨j,a,b,c⟩)
     ·exact absurd ca aw
     ·rw[dp.parts]at a;rw[nc]at b c;rw[tU aa a]at c;exact ⟨j,a,b,c⟩
theorem XN (id:Int) (s:ah) (l:List ah) (p:bN) (found:List ak) (ao:found.length<=1000000000000):
  vr ((found.length:Int),(0:Int),(0:Int),id,s,l,p,(0:Int),found,[],())=some (.inr ((0:Int),id,s,l,p,(0:Int),found,())):=by
 obtain ⟨z,aa,rfl⟩:=bi (b:=sB) (fun i (q:List ak)=>((found.length:Int),(i:Int),(0:Int),id,s,l,p,(0:Int),found,q,())) found.length (fun i q=>q=found.take i) (fun z=>z=.inr ((0:Int),id,s,l,p,(0:Int),found,())) (by omega)
  (fun i ab q aN=>by
   left;have ai:=gw (i:=i) (l:=found) (by omega);have b8:(decide ((0:Int)<=((i:Nat):Int)))=true:=am (by omega);have w:=fi (j:=i) (by omega);have room:(decide ((List.length q+List.length ([found[i]]:List (ak)))*40<=bm))=true:=am (by rw[dV,aN];simp;omega);refine ⟨q++[found[i]],by rw[aN,eZ ab],?_⟩;simp only[sB,Fm,FB,ai,b8,b7,aA,bQ,cn ab,cK,dt,dr,aL,room,w])
  (fun q aN=>by
   have ai:=hy found;rw[List.take_length]at aN;exact ⟨_,rfl,by simp only[sB,ai,aL,aN]⟩) [] (by simp)
 exact aa
theorem amC (id:Int) (s:ah) (l:List ah) (p:bN) (found:List ak) (e:Int) (he:e≠0):
  vr ((found.length:Int),(0:Int),(0:Int),id,s,l,p,e,found,[],())=some (.inl ((0:Int),id,s,l,p,e,[],()))\/
  vr ((found.length:Int),(0:Int),(0:Int),id,s,l,p,e,found,[],())=some (.inr ((0:Int),id,s,l,p,e,[],())):=by
 cases found with
 |nil=>
  right;exact lp (n:=1) (by rw[jM];omega) (by
   have ai:(decide ((0:Int)<((List.length ([]:List ak)):Int)))=false:=rfl;simp only[dR,sB,ai,aL])
 |cons x found=>
  left;exact lp (n:=1) (by rw[jM];omega) (by
   have ai:(decide ((0:Int)<((List.length (x::found)):Int)))=true:=am (by rw[List.length_cons];omega);have aq:(decide (e=0))=false:=bj he;simp only[dR,sB,Fm,ai,aq,Int.le_refl,cK,b7,aA,dr,dt,aL])
def il (s:ah) (p:ak):Bool:=bU s p.1
theorem Zg (s:ah):di [s]=il s:=by
 funext p
 simp[di,il]
theorem aoS (s:ah):hF [s]=fun k=>bU s k=true:=by
 funext k
 unfold hF;rw[jK]
theorem XZ (T:cy) (n:bq) (bo:j9 (T.1,T.2.1,())=some (n,112,())) (s:ah):jc (T,s,())=some (112,[],()):=by
 have ai:(decide ((112:Int)=0))=false:=rfl;simp only[jc,o5,sE,bo,ai,dr,aA,cK]
theorem aom (T:cy) (N:bq) (av:N.2.2.1=[]) (bo:j9 (T.1,T.2.1,())=some (N,0,())) (ao:N.1.length<1000000000000) (s:ah):jc (T,s,())=some (0,N.1.filter (il s),()):=by
 have ai:=Kz N.1 [s] ao (by simp);rw[Zg]at ai;have aJ:(N.1.filter (il s)).length<=N.1.length:=List.length_filter_le _ _;have aq:=XN T.2.1 (([]:af),(([]:af),())) [s] T.1 (N.1.filter (il s)) (by omega);have bb:(decide ((((List.length N.2.2.1):Int):Int)=(0:Int)))=true:=am (by rw[av];rfl);simp only[jc,o5,sE,bo,cK,dt,aL,ox,bb,ai,aq,aA]
def age (ns:List bq) (x:Nat) (P:List af) (pv:List (List af)) (ks:List Nat) (buf:List a6) (L:af->Prop):Prop:=
 ∃j,j<ks.length/\qi (iV buf L) (List.getD (partsOf cO (cl P cO)) j cO)/\sr ns x pv (List.getD (partsOf cO (cl P cO)) j cO) (ks.getD j 0) (iV buf L)
theorem anc {ns:List bq} {t:List ak} (aU:lD t) {b x:Nat} {P:List af} {pv:List (List af)} {N:bq} {ks:List Nat} (ax:pv.length<=1) (T:cy) (aP:u1 T.1 ns b x) (dp:rS ns t P pv cO N ks) (aaU: ∀k∈ks,k<b)
  (bo:j9 (T.1,T.2.1,())=some (N,0,())) (s:ah) (au:s.1.length<=200/\s.2.1.length<=200):
  ∃dx,jc (T,s,())=some (dx,(if dx=0 then (fu (low ns pv ks) N.2.2.2.2.1).filter (il s) else []),())/\qh dx/\(dx≠0↔age ns x P pv ks N.2.2.2.2.1 (fun k=>bU s k=true)):=by
 have bz:jV=999999999999999999999999+1:=rfl;have aE:4^N.2.2.2.2.1.length<=67108864:=by
  have:4^N.2.2.2.2.1.length<=4^13:=Nat.pow_le_pow_right (by omega) dp.few;omega
 have m9:1*4^N.2.2.2.2.1.length*1024^pv.length<=100000000000:=by
  have aZ:1024^pv.length<=1024^1:=Nat.pow_le_pow_right (by omega) ax;have:=Nat.mul_le_mul (show 1*4^N.2.2.2.2.1.length<=67108864 by omega) aZ;omega
 have avc:=dp.few;have kids:=fun j (ay:j<ks.length)=>Xz aU aP pv (List.getD (partsOf cO (cl P cO)) j cO) (ks.getD j 0) (by omega) (dp.good j ay) (by
  rw[cn ay];exact aaU _ (List.getElem_mem ay)) 999999999999999999999999 (200+4*N.2.2.2.2.1.length) (1*4^N.2.2.2.2.1.length) (by omega) (by omega) (by omega) m9
 obtain ⟨dJ,dx,j,f1,f2,f3,f4,f5,f6,f7⟩:=Xo (o1 999999999999999999999999) T.1 N cO _ ks (fun k=>D.cont ns pv k) (fun k q L=>sr ns x pv q k L) 200 1 dp.kids dp.parts dp.one dp.six dp.span dp.buf dp.few (by omega) (by omega) (by omega) (dp.contents aU ax) kids [s] 0 (by simp) (fun y bf=>by
  obtain rfl:=List.mem_singleton.1 bf;exact au) (.inl rfl)
 obtain ⟨g1,g2⟩:=dp.all ax j dJ;obtain ⟨F,e6⟩: ∃F,fu (((ks.take j).flatMap fun k=>D.cont ns pv k).filter (di dJ)) N.2.2.2.2.1=F:=⟨_,rfl⟩;rw[e6]at g1 g2;have ai:=Kz F [s] (by omega) (by simp);have lN:(F.filter (di [s])).length<=F.length:=List.length_filter_le _ _;have bb:(decide ((((List.length N.2.2.1):Int):Int)=(0:Int)))=false:=bj (by have:=dp.one;rw[dp.kids,iK];omega);have zg:FJ (N,(([]:af),(([]:af),())),[s],T.1,(0:Int),())=some (((ks.take j).flatMap fun k=>D.cont ns pv k).filter (di dJ),T.1,dx,()):=by
  unfold FJ;rw[bz];exact f1
 refine ⟨dx,?_,f3,?_⟩
 ·by_cases iu:dx=0
  ·have ay:=f5 iu;have are:=X0 (low:=low ns pv ks) (l:=[s]) dp.low.1 (fun m hm=>(dp.buf m hm).ok) f2;have apQ:F.filter (di [s])=(fu (low ns pv ks) N.2.2.2.2.1).filter (il s):=by
    rw[<-e6,ay,List.take_length,<-Zg];exact are
   have aq:=XN T.2.1 (([]:af),(([]:af),())) [s] T.1 (F.filter (di [s])) (by omega);rw[if_pos iu,<-apQ];subst iu;simp only[jc,o5,sE,bo,cK,dt,aL,ox,bb,dr,aA,zg,g1,ai,aq]
  ·have d0:decide (dx=0)=false:=bj iu;rw[if_neg iu];rcases amC T.2.1 (([]:af),(([]:af),())) [s] T.1 (F.filter (di [s])) dx iu with aq |aq
   ·simp only[jc,o5,sE,bo,cK,dt,aL,ox,bb,dr,aA,zg,g1,ai,aq,d0]
   ·simp only[jc,o5,sE,bo,cK,dt,aL,ox,bb,dr,aA,zg,g1,ai,aq,d0]
 ·rw[f7 rfl,aoS];exact Iff.rfl
def m3 (ns:List bq) (x:Nat):List (List af)->Nat->af->Prop
 |[],i,_=>i=x
 |_::pv,i,k=>i=x\/ ∃k' st,eC (mZ ns i).reverse k=.old k' st/\m3 ns x pv (yp ns i (ho k' (List.getD ns i ul).2.1)) k'
theorem De (k:af): ∀m:List af,ho k m<=m.length
 |[]=>Nat.le_refl _
 |p::m=>by
  unfold ho;have:=De k m;split
  ·omega
  ·rw[List.length_cons];omega
theorem an1 {ns:List bq} {t:List ak} (aU:lD t) {P:List af} {pv:List (List af)} {s:ah} {N:bq} {ks:List Nat} (dp:rS ns t P pv s N ks) (je:P.Pairwise fun a b=>Op.bytesLess a b=true) (aw:partsOf s (cl P s)=m8 s.2.1 s.1 (cl P s)) (k:af) {p:ak} {b:Bool}
  (h:iF (D.cont ns pv (ks.getD (ho k (cl P s)) 0)) k p b):iF (low ns pv ks) k p b:=by
 have iO:ks.length=(cl P s).length+1:=by rw[<-dp.parts,aw,r4]
 have aB:=De k (cl P s);have j3:ho k (cl P s)<ks.length:=by omega
 constructor
 ·intro ag;obtain ⟨aa,ad⟩:=h.1 ag;refine ⟨?_,ad⟩;rw[cn j3]at aa;exact List.mem_flatMap.2 ⟨_,List.getElem_mem j3,aa⟩
 ·intro ag;obtain ⟨aa,ad⟩:=h.2 ag;refine ⟨aa,fun q aN e=> ?_⟩;obtain ⟨kid,av,aN⟩:=List.mem_flatMap.1 aN;obtain ⟨j,ay,rfl⟩:=List.mem_iff_getElem.1 av;have aaB:=((dp.good j ay).cont aU).sp;rw[cn ay]at aaB;have dq:=aaB q aN;rw[e,aw]at dq;have:=Zv s.2.1 k (cl P s) s.1 j Lg (Dv je s) (by omega) dq;refine ad q ?_ e;rw[<-this,cn ay];exact aN
theorem Yk {ns:List bq} {t:List ak} (aU:lD t): ∀(pv:List (List af)) (s:ah) (i:Nat) (k:af),pv.length<=2->k1 ns t pv s i->k.length+100*pv.length<=1000->
  ∃(fs:List mG) (p:ak) (b:Bool) (n:Nat),1<=n/\n<=pv.length+1/\fs.length<=pv.length/\
   (∀(C:List ak) (bk:af) (gs:List mG),xh C bk gs k (D.cont ns pv i)-> ∃h0 hx,xh C bk (fs++gs) h0 hx/\iF hx h0 p b)/\
   ∀(T:cy) (lI x:Nat),u1 T.1 ns lI x->i<lI-> ∀(gs:List mG) (j:Nat),j+pv.length<=1000->
    (¬m3 ns x pv i k->dR kv (pv.length+1) (k,(i:Int),gs,T,[],[],(0:Int),false,(j:Int),())=some (.inl ((0:Int),fs++gs,p,b,((j+n:Nat):Int),())))/\
    (m3 ns x pv i k-> ∃sG:List mG,sG.length<=pv.length/\dR kv (pv.length+1) (k,(i:Int),gs,T,[],[],(0:Int),false,(j:Int),())=some (.inl ((112:Int),sG++gs,nO,false,(0:Int),())))
 |[],s,i,k,ax,bH,av=>by
  have aa:ns[i]? =some (inS s t,[],[],[],[],()):=bH.tree;have aB:D.cont ns [] i=inS s t:=by
   show (List.getD ns i ul).1=_;rw[ow aa]
  have NM:cg bu (inS s t):=List.Pairwise.filter _ aU.srt;have hlen:=qd s t;have zW:=aU.len;obtain ⟨p,b,ai,aq⟩:=ao0 (inS s t) k NM (by omega);refine ⟨[],p,b,1,Nat.le_refl _,by simp,by simp,fun C bk gs dg=>⟨k,_,dg,by rw[aB];exact aq⟩,fun T lI x aP gV gs j ay=>⟨fun aw=> ?_,fun aw=> ?_⟩⟩
  ·have bo:=aP i _ gV aa;rw[if_neg (show ¬i=x from aw)]at bo;have bb:(decide ((((List.length ([]:List Int)):Int):Int)=(0:Int)))=true:=rfl;have w:=fi (j:=j) (by omega);show dR kv 1 _=_;simp only[dR,kv,bo,cK,dt,aL,ox,bb,aA,ai,w,List.nil_append]
  ·have bo:=aP i _ gV aa;rw[if_pos (show i=x from aw)]at bo;have bb:(decide ((112:Int)=0))=false:=rfl;refine ⟨[],by simp,?_⟩;simp only[List.length_nil,dR,kv,bo,bb,dr,aA,List.nil_append]
 |P::pv,s,i,k,ax,bH,av=>by
  obtain ⟨ks,sums,buf,aa,dp,pa,a8,-⟩:=bH.inner aU;obtain ⟨gx,-⟩:=Dn bH.gx;have je:=bH.srt P List.mem_cons_self;have kB:pv.length<=1:=by simp at ax;omega
  simp only[List.length_cons]at av;have aB:=BS (ns:=ns) P pv aa;have zp: ∀m∈buf,fL m:=fun m hm=>(dp.buf m hm).ok
  have ai:=afl k buf zp (by omega) (by omega);have nc:mZ ns i=buf:=KL aa;have NB:(List.getD ns i ul).2.1=cl P s:=by rw[ow aa]
  have bb:(decide ((((List.length (dM ks)):Int):Int)=(0:Int)))=false:=bj (by have:=dp.one;rw[iK];omega);have lW: ∀x:ak,x.1=k->(x∈D.cont ns (P::pv) i↔nL (eC buf.reverse k) (low ns pv ks) x):=by
   intro x aw;rw[aB,KH dp.low.1 zp x,aw]
  cases na:eC buf.reverse k with
  |old k' st=>
   have fD:=YV (fun m hm=>zp m (List.mem_reverse.1 hm)) na;rw[List.length_reverse]at fD;have iO:ks.length=(cl P s).length+1:=by rw[<-dp.parts,gx,r4]
   have ir:=De k' (cl P s);have vB:ho k' (cl P s)<ks.length:=by omega
   have sN:(cl P s).length<=1000:=by have:=dp.six;omega
   have bx:=afo k' (cl P s) (Dv je s) sN;obtain ⟨fs,p,b,n,cC,dj,n3,n4,kK⟩:=Yk aU pv (List.getD (partsOf s (cl P s)) (ho k' (cl P s)) cO) (ks.getD (ho k' (cl P s)) 0) k' (by omega) (dp.good _ vB) (by omega);rw[na]at lW;have aaT:=tU aa vB;refine ⟨fs++[lr k (.old k' st)],p,b,n+1,by omega,by simp;omega,by simp;omega,fun C bk gs dg=> ?_,fun T lI x aP gV gs j ay=> ?_⟩
   ·obtain ⟨h0,hx,a7,aY⟩:=n4 C bk (lr k (.old k' st)::gs) ⟨k,_,fun p b aJ=>Lq lW (fun k2 s2 h=>by
     injection h with al aE
     rw[<-al];exact an1 aU dp je gx k' aJ),dg⟩
    exact ⟨h0,hx,by rw[List.append_assoc];exact a7,aY⟩
   ·have bo:=aP i _ gV aa;have w:=fi (j:=j) (by omega);have iN:ks.getD (ho k' (cl P s)) 0<lI:=by
     have:=a8 _ (List.getElem_mem vB);rw[cn vB];omega
    obtain ⟨c2,cr⟩:=kK T lI x aP iN (lr k (.old k' st)::gs) (j+1) (by simp only[List.length_cons]at ay;omega);have aY:(decide ((0:Int)<=((ho k' (cl P s):Nat):Int)))=true:=am (by omega);have c3:(decide (((ho k' (cl P s):Nat):Int)<((List.length (dM ks)):Int)))=true:=am (by rw[iK];omega);have fb:List.getD (dM ks) (ho k' (cl P s)) 0=((ks.getD (ho k' (cl P s)) 0:Nat):Int):=by rw[tE vB,cn vB]
    have ni:m3 ns x (P::pv) i k↔(i=x\/m3 ns x pv (ks.getD (ho k' (cl P s)) 0) k'):=by
     show (i=x\/ ∃k2 st,eC (mZ ns i).reverse k=.old k2 st/\m3 ns x pv (yp ns i (ho k2 (List.getD ns i ul).2.1)) k2)↔_;rw[nc,NB];constructor
     ·rintro (h |⟨k2,s2,al,aE⟩)
      ·exact .inl h
      ·rw[na]at al;injection al with aZ bt
       subst aZ;rw[aaT]at aE;exact .inr aE
     ·rintro (h |h)
      ·exact .inl h
      ·exact .inr ⟨k',st,na,by rw[aaT];exact h⟩
    by_cases E1:i=x
    ·rw[if_pos E1]at bo;have c9:(decide ((112:Int)=0))=false:=rfl;refine ⟨fun h=>absurd (ni.2 (.inl E1)) h,fun _=>⟨[],by simp,?_⟩⟩;simp only[List.length_cons,dR,kv,bo,c9,dr,aA,List.nil_append]
    ·rw[if_neg E1]at bo;have step:dR kv ((P::pv).length+1) (k,(i:Int),gs,T,[],[],(0:Int),false,(j:Int),())=dR kv (pv.length+1) (k',((ks.getD (ho k' (cl P s)) 0:Nat):Int),lr k (.old k' st)::gs,T,[],[],(0:Int),false,((j+1:Nat):Int),()):=by
      rw[List.length_cons]
      conv=>lhs;unfold dR
      rw[na]at ai;simp only[kv,bo,cK,dt,aL,ox,bb,ai,lr,bx,aY,c3,b7,aA,bQ,fb,w]
     rw[step];refine ⟨fun h=> ?_,fun h=> ?_⟩
     ·rw[c2 (fun ca=>h (ni.2 (.inr ca)))];rw[List.append_assoc,show j+1+n=j+(n+1) by omega];rfl
     ·obtain ⟨sG,g1,g2⟩:=cr ((ni.1 h).resolve_left E1);refine ⟨sG++[lr k (.old k' st)],by simp;omega,?_⟩;rw[g2,List.append_assoc];rfl
  |gen v n=>
   rw[na]at lW;refine ⟨[lr k (.gen v n)],nO,false,1,by omega,by omega,by simp,fun C bk gs dg=>⟨[],[],⟨k,_,fun p b _=>Lq lW (fun k2 s2 h=>by cases h),dg⟩,fun h=>(by cases h),fun _=>⟨rfl,fun q aN=>(by cases aN)⟩⟩,fun T lI x aP gV gs j ay=> ?_⟩;have bo:=aP i _ gV aa;have w:=fi (j:=j) (by omega);have ni:m3 ns x (P::pv) i k↔i=x:=by
    show (i=x\/ ∃k2 st,eC (mZ ns i).reverse k=.old k2 st/\_)↔_;rw[nc,na];exact ⟨fun h=>h.elim id (fun ⟨_,_,h,_⟩=>by cases h),.inl⟩
   rw[na]at ai;refine ⟨fun h=> ?_,fun h=>⟨[],by simp,?_⟩⟩
   ·rw[if_neg (fun ca=>h (ni.2 ca))]at bo;simp only[List.length_cons,dR,kv,bo,cK,dt,aL,ox,bb,ai,lr,aA,w];rfl
   ·rw[if_pos (ni.1 h)]at bo;have c9:(decide ((112:Int)=0))=false:=rfl;simp only[List.length_cons,dR,kv,bo,c9,dr,aA,List.nil_append]
  |gone=>
   rw[na]at lW;refine ⟨[lr k .gone],nO,false,1,by omega,by omega,by simp,fun C bk gs dg=>⟨[],[],⟨k,_,fun p b _=>Lq lW (fun k2 s2 h=>by cases h),dg⟩,fun h=>(by cases h),fun _=>⟨rfl,fun q aN=>(by cases aN)⟩⟩,fun T lI x aP gV gs j ay=> ?_⟩;have bo:=aP i _ gV aa;have w:=fi (j:=j) (by omega);have ni:m3 ns x (P::pv) i k↔i=x:=by
    show (i=x\/ ∃k2 st,eC (mZ ns i).reverse k=.old k2 st/\_)↔_;rw[nc,na];exact ⟨fun h=>h.elim id (fun ⟨_,_,h,_⟩=>by cases h),.inl⟩
   rw[na]at ai;refine ⟨fun h=> ?_,fun h=>⟨[],by simp,?_⟩⟩
   ·rw[if_neg (fun ca=>h (ni.2 ca))]at bo;simp only[List.length_cons,dR,kv,bo,cK,dt,aL,ox,bb,ai,lr,aA,w];rfl
   ·rw[if_pos (ni.1 h)]at bo;have c9:(decide ((112:Int)=0))=false:=rfl;simp only[List.length_cons,dR,kv,bo,c9,dr,aA,List.nil_append]
theorem aoX (e:Int) (fs:List mG) (p:ak) (b:Bool) (ao:fs.length<=1000):Bz (e,fs,p,b,(0:Int),())=some (.inl (e,p,b,(0:Int),())):=by
 obtain ⟨r,aa,rfl⟩:=xK (b:=rt) (fun s=>s.2.1.length) (fun s=> ∃fs,s=(e,fs,p,b,(0:Int),())) (fun r=>r=.inl (e,p,b,(0:Int),()))
  (fun s ab=>by
   obtain ⟨fs,rfl⟩:=ab;cases fs with
   |nil=>exact .inr ⟨_,rfl,rfl⟩
   |cons x fs=>
    left;have ai:decide ((0:Int)>(0:Int))=false:=rfl;simp only[rt,List.isEmpty_cons,aL,List.head?_cons,List.tail_cons,ai];exact ⟨_,rfl,⟨fs,rfl⟩,by simp⟩) (e,fs,p,b,(0:Int),()) ⟨fs,rfl⟩ (by show fs.length<_;omega)
 exact aa
theorem afi {ns:List bq} {t:List ak} (aU:lD t) (pv:List (List af)) (s:ah) (i:Nat) (k:af) (ax:pv.length<=2) (bH:k1 ns t pv s i) (av:k.length<=500):
  ∃(q:ak) (c:Bool) (n:Nat),1<=n/\n<=pv.length+1/\iF (D.cont ns pv i) k q c/\
   ∀(T:cy) (lI x:Nat),u1 T.1 ns lI x->i<lI->T.2.1=(i:Int)->
    (¬m3 ns x pv i k->oq (T,k,())=some (q,c,(n:Int),(0:Int),()))/\(m3 ns x pv i k->oq (T,k,())=some (nO,false,(0:Int),(112:Int),())):=by
 obtain ⟨fs,p,b,n,cC,dj,n3,n4,kK⟩:=Yk aU pv s i k ax bH (by omega);obtain ⟨h0,hx,a7,aY⟩:=n4 (D.cont ns pv i) k [] ⟨rfl,rfl⟩;rw[List.append_nil]at a7;obtain ⟨q,c,ai,aq⟩:=ao3 (D.cont ns pv i) k (n:Int) (by omega) fs h0 hx p b (by omega) a7 aY;refine ⟨q,c,n,cC,dj,aq,fun T lI x aP gV az=> ?_⟩;obtain ⟨c2,cr⟩:=kK T lI x aP gV [] 0 (by omega);rw[List.append_nil]at c2;constructor
 ·intro h;have aa:=c2 h;have ad:CG (k,(i:Int),[],T,[],[],(0:Int),false,(0:Int),())=some (.inl ((0:Int),fs,p,b,(n:Int),())):=by
   refine lp (n:=pv.length+1) (by rw[jM];omega) ?_;have:((0+n:Nat):Int)=(n:Int):=by omega
   rw[this]at aa;exact aa
  simp only[oq,az,ad,ai]
 ·intro h;obtain ⟨sG,g1,g2⟩:=cr h;rw[List.append_nil]at g2;have ad:CG (k,(i:Int),[],T,[],[],(0:Int),false,(0:Int),())=some (.inl ((112:Int),sG,nO,false,(0:Int),())):=lp (n:=pv.length+1) (by rw[jM];omega) g2;simp only[oq,az,ad,aoX 112 sG nO false (by omega)]
theorem aoI (x:eg) (h:yA x):lD (nN x):=by
 have ark: ∀y∈x.1.take 40,tB y:=fun y bf=>h.t.1 y (List.mem_of_mem_take bf)
 have hlen:=Kx (x.1.take 40);rw[List.length_take]at hlen;refine ⟨aos _,?_,fun p aP=> ?_⟩
 ·unfold nN;omega
 ·obtain ⟨y,bf,rfl⟩:=X4 _ p aP;have aa:=ark y bf;have:=(Xd y.1 aa.1.1 aa.1.2).2.1;show (qg y.1).length<=100;omega
theorem aov (x:eg) {ns:List bq} {root:Nat} (h:gv ns (nN x) (kn x) cO root):k1 ns (nN x) (kn x) cO root:=by
 have hm:=Lu x;have au:=KI _ hm;exact ⟨h,au.2,anN _ hm,an5 _ hm,ao5 _ hm⟩
theorem afq (x:eg):(kn x).length<=2:=(KI _ (Lu x)).1
theorem Zw (ns:List bq):u1 (mk ns (fun _=>1),()) ns ns.length ns.length:=by
 intro i n ab aQ;obtain ⟨aa,ad⟩:=List.getElem?_eq_some_iff.1 aQ;rw[if_neg (by omega),al5 ab,ad]
theorem Zf {ns:List bq} {t:List ak} (aU:lD t) {x:Nat}: ∀{pv:List (List af)} {s:ah} {i:Nat} {L:af->Prop},k1 ns t pv s i->sr ns x pv s i L->x<=i
 |[],s,i,L,_,h=>by
  have h:i=x:=h;omega
 |P::pv,s,i,L,bH,h=>by
  obtain ⟨ks,sums,buf,aa,dp,pa,a8,-⟩:=bH.inner aU;rcases h with h |⟨j,a,b,c⟩
  ·omega
  ·rw[dp.parts]at a;rw[tU aa a]at c;have ad:=Zf aU (dp.good j a) c;have:ks.getD j 0<i:=a8 _ (by rw[cn a];exact List.getElem_mem a);omega
theorem Ze {ns:List bq} {t:List ak} (aU:lD t) {x:Nat}: ∀{pv:List (List af)} {s:ah} {i:Nat} {k:af},k1 ns t pv s i->m3 ns x pv i k->x<=i
 |[],s,i,k,_,h=>by
  have h:i=x:=h;omega
 |P::pv,s,i,k,bH,h=>by
  obtain ⟨ks,sums,buf,aa,dp,pa,a8,-⟩:=bH.inner aU;obtain ⟨gx,-⟩:=Dn bH.gx;have iO:ks.length=(cl P s).length+1:=by rw[<-dp.parts,gx,r4]
  rcases h with h |⟨k',st,a,b⟩
  ·omega
  ·have NB:(List.getD ns i ul).2.1=cl P s:=by rw[ow aa]
   have aB:=De k' (cl P s);have ay:ho k' (cl P s)<ks.length:=by omega
   rw[NB,tU aa ay]at b;have ad:=Ze aU (dp.good _ ay) b;have:ks.getD (ho k' (cl P s)) 0<i:=a8 _ (by rw[cn ay];exact List.getElem_mem ay);omega
structure kj (ns:List bq) (t:List ak) (pv:List (List af)) (root:Nat):Prop where
 tab:lD t
 good:k1 ns t pv cO root
 two:pv.length<=2
 lt:root<ns.length
theorem kj.made (x:eg) (h:yA x) {ns:List bq} {root:Nat} (aU:gv ns (nN x) (kn x) cO root):kj ns (nN x) (kn x) root:=
 ⟨aoI x h,aov x aU,afq x,aU.lt⟩
theorem kj.content {ns:List bq} {t:List ak} {pv:List (List af)} {root:Nat} (h:kj ns t pv root):DP cO pv.length (cont ns pv root):=h.good.cont h.tab
theorem agi {d:Nat} (h:d<=2):clen d<=36870176:=by
 have:d=0\/d=1\/d=2:=by omega
 rcases this with rfl |rfl |rfl<;>decide
theorem kj.clen {ns:List bq} {t:List ak} {pv:List (List af)} {root:Nat} (h:kj ns t pv root):(cont ns pv root).length<=36870176:=Nat.le_trans h.content.len (agi h.two)
theorem kj.got {ns:List bq} {t:List ak} {pv:List (List af)} {root:Nat} (h:kj ns t pv root) (sh:fa) (k:af) (av:k.length<=500):
  ∃(q:ak) (c:Bool) (n:Nat),oq (((D.mk ns (fun _=>1),()),((root:Int),(sh,()))),k,())=some (q,c,(n:Int),(0:Int),())/\iF (cont ns pv root) k q c/\1<=n:=by
 obtain ⟨q,c,n,cC,dj,n3,n4⟩:=afi h.tab pv cO root k h.two h.good av;exact ⟨q,c,n,(n4 _ ns.length ns.length (Zw ns) h.lt rfl).1 (fun bC=>by have:=Ze h.tab h.good bC;have:=h.lt;omega),n3,cC⟩
theorem kj.scanX {ns:List bq} {t:List ak} {pv:List (List af)} {root:Nat} (h:kj ns t pv root) (T:cy) {b x:Nat} (aP:u1 T.1 ns b x) (ag:root<b) (az:T.2.1=(root:Int)) (s:ah) (au:s.1.length<=200/\s.2.1.length<=200):
  ∃e,jc (T,s,())=some (e,(if e=0 then (cont ns pv root).filter (il s) else []),())/\qh e/\(e≠0↔sr ns x pv cO root (fun k=>bU s k=true)):=by
 match pv,h with
 |[],h=>
  have aa:ns[root]? =some (inS cO t,[],[],[],[],()):=h.good.tree;have bo:=aP root _ ag aa;rw[<-az]at bo;have aB:cont ns [] root=inS cO t:=by
   show (List.getD ns root ul).1=_;rw[ow aa]
  by_cases aw:root=x
  ·rw[if_pos aw]at bo;exact ⟨112,XZ T ul bo s,.inr rfl,⟨fun _=>aw,fun _=>by decide⟩⟩
  ·rw[if_neg aw]at bo;have ao:=qd cO t;have gM:=h.tab.len;refine ⟨0,?_,.inl rfl,⟨fun ca=>absurd rfl ca,fun ca=>absurd ca aw⟩⟩;rw[if_pos rfl,aB];exact aom T (inS cO t,[],[],[],[],()) rfl bo (by show (inS cO t).length<_;omega) s
 |P::pv,h=>
  obtain ⟨ks,sums,buf,aa,dp,pa,a8,-⟩:=h.good.inner h.tab;have bo:=aP root _ ag aa;rw[<-az]at bo;have ax:pv.length<=1:=by have:=h.two;simp at this;omega
  by_cases aw:root=x
  ·rw[if_pos aw]at bo;exact ⟨112,XZ T ul bo s,.inr rfl,⟨fun _=>.inl aw,fun _=>by decide⟩⟩
  ·rw[if_neg aw]at bo;obtain ⟨e,ai,aq,bb⟩:=anc h.tab ax T aP dp (fun k av=>by have:=a8 k av;omega) bo s au;refine ⟨e,?_,aq,?_⟩
   ·rw[BS P pv aa];exact ai
   ·rw[bb];have nc:mZ ns root=buf:=KL aa;constructor
    ·rintro ⟨j,a,b,c⟩;refine .inr ⟨j,by rw[dp.parts];exact a,by rw[nc];exact b,by rw[nc,tU aa a];exact c⟩
    ·rintro (ca |⟨j,a,b,c⟩)
     ·exact absurd ca aw
     ·rw[dp.parts]at a;rw[nc]at b c;rw[tU aa a]at c;exact ⟨j,a,b,c⟩
theorem kj.scan {ns:List bq} {t:List ak} {pv:List (List af)} {root:Nat} (h:kj ns t pv root) (sh:fa) (s:ah) (au:s.1.length<=200/\s.2.1.length<=200):
  jc (((D.mk ns (fun _=>1),()),((root:Int),(sh,()))),s,())=some (0,(cont ns pv root).filter (il s),()):=by
 obtain ⟨e,ai,aq,bb⟩:=h.scanX ((D.mk ns (fun _=>1),()),((root:Int),(sh,()))) (Zw ns) h.lt rfl s au;have:e=0:=by
  rcases Classical.em (e=0) with ca |ca
  ·exact ca
  ·have:=Zf h.tab h.good (bb.1 ca);have:=h.lt;omega
 subst this;rw[if_pos rfl]at ai;exact ai
theorem Xw (l:List ak) (ao:l.length<=1000000000000):tI (l,l,())=some (true,()):=by
 obtain ⟨z,aa,rfl⟩:=bi (b:=AV) (fun i (_:Unit)=>(l,l,(i:Int),())) l.length (fun i _=>True) (fun z=>z=.inr ()) (by omega)
  (fun i ab _ _=>by
   left;have ai:=gw (i:=i) (l:=l) (by omega);have b8:(decide ((0:Int)<=((i:Nat):Int)))=true:=am (by omega);have w:=fi (j:=i) (by omega);exact ⟨(),trivial,by simp only[AV,ai,b8,b7,aA,bQ,pP,dt,aL,w]⟩)
  (fun _ _=>by
   have ai:=hy l;exact ⟨_,rfl,by simp only[AV,ai,aL]⟩) () trivial
 have dc:Ii (l,l,(0:Int),())=some (.inr ()):=aa;simp only[tI,cK,dt,aL,dc]
def ou:List af:=((tF ()).map (·.1)).getD []
def ZA:Bool:=match tF () with
 |some (l,())=>decide (l.length=66)&&l.all fun k=>decide (k.length<=20)
 |none=>false
theorem alZ:ZA=true:=by decide+kernel
theorem Kj:tF ()=some (ou,())/\ou.length=66/\ ∀k∈ou,k.length<=20:=by
 have h:=alZ;unfold ZA at h;unfold ou;cases e:tF () with
 |none=>rw[e]at h;cases h
 |some q=>
  obtain ⟨l,u⟩:=q;rw[e]at h;simp only[bB,db,List.all_eq_true]at h;exact ⟨rfl,h.1,h.2⟩
theorem aoP {t:List ak} {l:List a6} (au:cg bu t) (h: ∀m∈l,fL m) (ao:t.length<=1200000) (aQ:l.length<=13) {B:Nat} (cG:100<=B) (iL:B<=900) (av: ∀p∈t,p.1.length<=B):
  Kq (t,l,())=some (fu t l,()):=by
 obtain ⟨z,aa,rfl⟩:=bi (b:=G7) (fun i (q:List ak)=>(q,l,(i:Int),())) l.length (fun i q=>q=fu t (l.take i)) (fun z=>z=.inl (fu t l,())) (by omega)
  (fun i ab q aN=>by
   left;have ai:=gw (i:=i) (l:=l) (by omega);have b8:(decide ((0:Int)<=((i:Nat):Int)))=true:=am (by omega);have w:=fi (j:=i) (by omega);obtain ⟨en,a2,a3⟩:=Kt au h ao aQ cG iL av i (by omega);rw[<-aN]at en a2 a3;have aq:=(Yy q l[i] (h _ (List.getElem_mem ab)) en a2 a3).2;refine ⟨ht q l[i],by rw[aN,eZ ab,Ks],?_⟩;simp only[G7,ai,b8,b7,aA,bQ,cn ab,aq,w])
  (fun q aN=>by
   have ai:=hy l;rw[List.take_length]at aN;exact ⟨_,rfl,by simp only[G7,ai,aL,aN]⟩) t rfl
 have dc:V7 (t,l,(0:Int),())=some (.inl (fu t l,())):=aa;simp only[Kq,dc]
theorem Xs {ns:List bq} {t:List ak} (aU:lD t): ∀(pv:List (List af)) (s:ah) (i:Nat),pv.length<=2->k1 ns t pv s i-> ∀n,pv.length+1<=n->
  Ao n ((mk ns (fun _=>1),()),(i:Int),())=some (cont ns pv i,())
 |[],s,i,ax,bH,n,aQ=>by
  obtain ⟨n,rfl⟩: ∃k,n=k+1:=⟨n-1,by simp at aQ;omega⟩;have aa:ns[i]? =some (inS s t,[],[],[],[],()):=bH.tree;obtain ⟨a8,ad⟩:=List.getElem?_eq_some_iff.1 aa;have bo:=JX (ns:=ns) (r:=fun _=>1) a8;rw[ad]at bo;have aB:cont ns [] i=inS s t:=by
   show (List.getD ns i ul).1=_;rw[ow aa]
  have bb:(decide ((((List.length ([]:List Int)):Int):Int)=(0:Int)))=true:=rfl;rw[aB];show md _ _=_;simp only[md,bo,bb,aA]
 |P::pv,s,i,ax,bH,n,aQ=>by
  obtain ⟨n,rfl⟩: ∃k,n=k+1:=⟨n-1,by simp at aQ;omega⟩;obtain ⟨ks,sums,buf,aa,dp,pa,a8,-⟩:=bH.inner aU;have kB:pv.length<=1:=by simp at ax;omega
  obtain ⟨n0,ad⟩:=List.getElem?_eq_some_iff.1 aa;have bo:=JX (ns:=ns) (r:=fun _=>1) n0;rw[ad]at bo;have kids:=fun j (ay:j<ks.length)=>Xs aU pv (List.getD (partsOf s (cl P s)) j cO) (ks.getD j 0) (by omega) (dp.good j ay) n (by simp at aQ;omega)
  have jD:=dp.contents aU kB;have ir:=JS kB;obtain ⟨dd,cM,nu,pB⟩:=dp.low;obtain ⟨z,g1,rfl⟩:=bi (b:=Gb (Ao n)) (fun i (q:List ak)=>((i:Int),(mk ns (fun _=>1),()),(([],cl P s,dM ks,sums,buf,()):bq),q,())) ks.length (fun i q=>q=(ks.take i).flatMap fun k=>cont ns pv k) (fun z=>z=.inl ((([],cl P s,dM ks,sums,buf,()):bq),low ns pv ks,())) (by have:=dp.six;omega)
   (fun j ay q aN=>by
    left;have ai:(decide (((j:Nat):Int)<((List.length (dM ks)):Int)))=true:=am (by rw[iK];omega);have b8:(decide ((0:Int)<=((j:Nat):Int)))=true:=am (by omega);have w:=fi (j:=j) (by have:=dp.six;omega);have aq:=kids j ay;rw[cn ay]at aq;have aB:=(jD j ay).2;rw[cn ay]at aB;have arh:q.length<=1200000:=by
     have:=(Yr ns pv ks j [cO]).length_le;have pk:((ks.take j).flatMap fun k=>cont ns pv k).length<=(low ns pv ks).length:=by
      unfold low;have:ks=ks.take j++ks.drop j:=(List.take_append_drop j ks).symm
      conv=>rhs;rw[this]
      rw[List.flatMap_append,List.length_append];omega
     rw[aN];omega
    have room:(decide ((List.length q+List.length (cont ns pv ks[j]))*40<=bm))=true:=am (by rw[dV];omega);refine ⟨q++cont ns pv ks[j],by rw[aN,eZ ay,List.flatMap_append];simp,?_⟩;simp only[Gb,ai,b8,b7,aA,bQ,tE ay,aq,room,w])
   (fun q aN=>by
    have ai:(decide (((ks.length:Nat):Int)<((List.length (dM ks)):Int)))=false:=bj (by rw[iK];omega);rw[List.take_length]at aN;refine ⟨_,rfl,?_⟩;simp only[Gb,ai,aL,aN];rfl) [] (by simp)
  have kx:RZ (Ao n) ((0:Int),(mk ns (fun _=>1),()),(([],cl P s,dM ks,sums,buf,()):bq),[],())=some (.inl ((([],cl P s,dM ks,sums,buf,()):bq),low ns pv ks,())):=g1;have bb:(decide ((((List.length (dM ks)):Int):Int)=(0:Int)))=false:=bj (by have:=dp.one;rw[iK];omega);have bx:=aoP dd (fun m hm=>(dp.buf m hm).ok) (by omega) dp.few (B:=140) (by omega) (by omega) (fun p aP=>by have:=pB p aP;omega);rw[BS P pv aa];show md _ _=_;simp only[md,bo,bb,aL,kx,bx]
theorem kj.all {ns:List bq} {t:List ak} {pv:List (List af)} {root:Nat} (h:kj ns t pv root) (sh:fa):XX (((D.mk ns (fun _=>1),()),((root:Int),(sh,()))),())=some (cont ns pv root,()):=by
 have:=Xs h.tab pv cO root h.two h.good jV (by have:=h.two;rw[jM];omega);have this:U4 ((D.mk ns (fun _=>1),()),(root:Int),())=some (cont ns pv root,()):=this;simp only[XX,this]
theorem afn:(ou.drop 1).all (fun k=> !decide (k=[]))=true:=by decide+kernel
theorem afm {i:Nat} (h:1<=i) (ab:i<ou.length):ou[i]≠[]:=by
 have aa:i-1<(ou.drop 1).length:=by rw[List.length_drop];omega
 have:=List.all_eq_true.1 afn _ (List.getElem_mem aa);rw[List.getElem_drop]at this;have e:1+(i-1)=i:=by omega
 simp only[e]at this;simpa using this
theorem aox (t:List ak) (au:cg bu t) (ao:t.length<1000000000000):Cz (t,())=some (true,()):=by
 obtain ⟨z,aa,rfl⟩:=bi (b:=AG) (fun i (_:Unit)=>(t,((i+1:Nat):Int),())) (t.length-1) (fun i _=>True) (fun z=>z=.inr ()) (by omega)
  (fun i ab _ _=>by
   left;have ai:(decide (((i+1:Nat):Int)<((List.length t):Int)))=true:=am (by omega);have b8:(decide ((0:Int)<=((i+1:Nat):Int)))=true:=am (by omega);have aq:(decide ((0:Int)<=((i:Nat):Int)))=true:=am (by omega);have bb:=gw (i:=i) (l:=t) (by omega);have w:=fi (j:=i+1) (by omega);have c0:=GR (j:=i) (by omega);have ad:Op.bytesLess (t[i]'(by omega)).1 (t[i+1]'(by omega)).1=true:=List.pairwise_iff_getElem.1 au i (i+1) (by omega) (by omega) (by omega);exact ⟨(),trivial,by simp only[AG,ai,b8,c0,aq,bb,b7,aA,bQ,cn (show i<t.length by omega),cn (show i+1<t.length by omega),ad,dt,aL,w]⟩)
  (fun _ _=>by
   have ai:(decide (((t.length-1+1:Nat):Int)<((List.length t):Int)))=false:=bj (by omega);exact ⟨_,rfl,by simp only[AG,ai,aL]⟩) () trivial
 have dc:HT (t,(1:Int),())=some (.inr ()):=aa;simp only[Cz,dc]
theorem Wd {α:Type} (p q:α->Bool) (h: ∀x,q x= !p x): ∀l:List α,(l.filter p).length+(l.filter q).length=l.length
 |[]=>rfl
 |x::l=>by
  have aO:=Wd p q h l;rw[List.filter_cons,List.filter_cons,h x];cases p x<;>simp<;>omega
theorem Zd (k:af) (av:k≠[]) (p:ak):il (([]:af),k,()) p=Op.bytesLess p.1 k:=by
 have:Op.bytesLess p.1 []=false:=by cases p.1<;>rfl
 unfold il bU;simp[this,av]
theorem Zc (k:af) (p:ak):il (k,([]:af),()) p= !Op.bytesLess p.1 k:=by
 unfold il bU;simp
theorem an6 (C:List ak):C.filter (il cO)=C:=by
 rw[List.filter_eq_self];intro p aP;exact eS.2 ⟨by cases p.1<;>rfl,.inl rfl⟩
theorem aux {C:List ak} (au:cg bu C) {k:af} {p:ak} {b:Bool} (h:iF C k p b):C.filter (il (k,k++[0],()))=if b=true then [p] else []:=by
 have kG: ∀q:ak,il (k,k++[0],()) q=decide (q.1=k):=fun q=>yc k q.1
 cases b with
 |false=>
  rw[if_neg (by simp),List.filter_eq_nil_iff];intro q aN;rw[kG];simpa using (h.2 rfl).2 q aN
 |true=>
  obtain ⟨aa,ad⟩:=h.1 rfl;rw[if_pos rfl];refine uM (List.Pairwise.filter _ au) (List.pairwise_singleton _ _) (fun x=> ?_);rw[List.mem_filter,kG,List.mem_singleton];constructor
  ·rintro ⟨al,aE⟩;have aE:x.1=k:=of_decide_eq_true aE;have aw:iF C k x true:=⟨fun _=>⟨al,aE⟩,fun h=>by cases h⟩;exact (aw.uniq au h).1
  ·rintro rfl;exact ⟨aa,am ad⟩
theorem akL (x:eg) (w:jJ) (aw:yA x) (hw:0<=w.1/\w.1<256):wj (x,w,())=some (true,()):=by
 obtain ⟨ns,root,aa,ad,al,aE,aZ⟩:=aoL x aw;have bW:=kj.made x aw ad;obtain ⟨i,ab⟩: ∃i:Nat,1+w.1.toNat%65=i:=⟨_,rfl⟩;have cf: ∀h:i<ou.length,ou[i]≠[]:=fun h=>afm (by omega) h
 obtain ⟨K,a1,k2,b5,cf⟩: ∃K,tF ()=some (K,())/\K.length=66/\(∀k∈K,k.length<=20)/\(∀h:i<K.length,K[i]≠[]):=⟨_,Kj.1,Kj.2.1,Kj.2.2,cf⟩;have Nd:i<K.length:=by omega
 have iN:=b5 _ (List.getElem_mem Nd);have Ni:=cf Nd;obtain ⟨k,av⟩: ∃k,K[i]=k:=⟨_,rfl⟩;rw[av]at iN Ni;have bb:i64.wrap (((List.length K):Int)-1)=65:=by rw[cR (by omega)];omega
 have bx:i64.wrap ((1:Int)+(Int.tmod (i64.wrap w.1) 65))=(i:Int):=by
  rw[cR (x:=w.1) (by omega),Int.tmod_eq_emod_of_nonneg hw.1,cR (by omega)];omega
 have a7:=fm i;have aY:(decide ((i:Int)<((List.length K:Nat):Int)))=true:=am (by omega);have room:(decide (List.length k+List.length ([0]:af)<=bm))=true:=am (by rw[dV];simp;omega);have s1:=bW.scan (rz x.2.2.1) (([]:af),k,()) ⟨Nat.zero_le _,by show k.length<=200;omega⟩;have s2:=bW.scan (rz x.2.2.1) (k,([]:af),()) ⟨by show k.length<=200;omega,Nat.zero_le _⟩;have gE:=bW.scan (rz x.2.2.1) cO ⟨Nat.zero_le _,Nat.zero_le _⟩;have kd:=bW.scan (rz x.2.2.1) (k,k++[0],()) ⟨by show k.length<=200;omega,by show (k++[0]).length<=200;simp;omega⟩;obtain ⟨p,b,n,g1,g2,-⟩:=bW.got (rz x.2.2.1) k (by omega);obtain ⟨T,ap3⟩: ∃T:cy,((mk ns (fun _=>1),()),((root:Int),(rz x.2.2.1,())))=T:=⟨_,rfl⟩;rw[ap3]at aa s1 s2 gE kd g1;obtain ⟨C,dg⟩: ∃C,cont ns (kn x) root=C:=⟨_,rfl⟩;have ir:=bW.clen;have jD:=bW.content.srt;rw[dg]at s1 s2 gE kd g2 ir jD;rw[an6]at gE;rw[aux jD g2]at kd;have hlen:=Wd (il (([]:af),k,())) (il (k,([]:af),())) (fun q=>by rw[Zd k Ni,Zc]) C;obtain ⟨A,dO⟩: ∃A,C.filter (il (([]:af),k,()))=A:=⟨_,rfl⟩;obtain ⟨B,cG⟩: ∃B,C.filter (il (k,([]:af),()))=B:=⟨_,rfl⟩;rw[dO,cG]at hlen;rw[dO]at s1;rw[cG]at s2;have adf: ∀q,q∈A↔q∈C/\Op.bytesLess q.1 k=true:=fun q=>by rw[<-dO,List.mem_filter,Zd k Ni]
 have adg: ∀q,q∈B↔q∈C/\Op.bytesLess q.1 k=false:=fun q=>by rw[<-cG,List.mem_filter,Zc];simp
 obtain ⟨r,mQ,mR,ot⟩:=YJ A B (by rw[<-dO];exact List.Pairwise.filter _ jD) (by rw[<-cG];exact List.Pairwise.filter _ jD) (fun q aN ha lU e=>by
  have bt:=((adf q).1 aN).2;have dn:=((adg ha).1 lU).2;rw[e,dn]at bt;cases bt) (by omega)
 have az:r=C:=uM mR jD (fun q=>by
  rw[ot,adf,adg];cases Op.bytesLess q.1 k<;>simp)
 subst az;have v1:=aox r jD (by omega);have v2:=Xw r (by omega);have c9:i64.wrap (((List.length A):Int)+((List.length B):Int))=((List.length r):Int):=by rw[cR (by omega)];omega
 have d65:(decide ((65:Int)=0))=false:=rfl;unfold wj;rw[apl];simp only[aa,a1,bb,d65,aL,bx,a7,aY,b7,aA,bQ,cn Nd,av,s1,s2,gE,room,kd,Kk,g1,cK,dt,dr,v1,mQ,v2,c9,o3];cases b with
 |false=>
  have cV:(if false=true then [p] else [])=([]:List ak):=rfl;rw[cV];rfl
 |true=>
  have cV:(if true=true then [p] else [])=[p]:=rfl;rw[cV];simp only[aA,Xw [p] (by simp)]
theorem ala {B:aD->Nat} (al:B A1=3) (bt:B rD=6) (me:eg) (hq:jJ) (g0:aD.good B ZH me) (g1:aD.good B (.pair (.int .u8) (.pair (.int .u8) .unit)) hq):wj (me,hq,())=some (true,()):=
 akL me hq (af0 al bt g0) (m1 g1.1)
end D
