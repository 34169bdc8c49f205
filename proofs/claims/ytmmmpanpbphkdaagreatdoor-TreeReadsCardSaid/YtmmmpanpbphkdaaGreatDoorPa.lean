import Derived.Test.YtmmmpanpbphkdaaGreatDoorXC
import Derived.Test.YtmmmpanpbphkdaaGreatDoorD
import Derived.KernelRfl
import Derived.Sort.AssemblyPlain
set_option linter.unusedVariables false
set_option linter.unusedSimpArgs false
set_option maxRecDepth 100000
open Go Go.X
open Go.IntKind (i64)
namespace D
theorem am {p:Prop} [Decidable p] (h:p):decide p=true:=decide_eq_true h
theorem bg {p:Prop} [Decidable p] (h: ¬p):decide p=false:=decide_eq_false h
theorem cU {x:Int} (h: -9223372036854775808<=x/\x<9223372036854775808):i64.wrap x=x:=ahp h.1 h.2
theorem ff (i:Nat):(decide ((0:Int)<=(i:Int)))=true:=am (by omega)
theorem fL (i:Nat) (h:i<4611686018427387904):i64.wrap ((i:Int)+1)=((i+1:Nat):Int):=by rw[cU (by omega)];omega
theorem gA {α:Type} {l:List α} {i:Nat} (h:i<l.length):(decide (((i:Nat):Int)<((List.length l):Int)))=true:=am (by omega)
theorem hk {α:Type} (l:List α):(decide (((l.length:Nat):Int)<((List.length l):Int)))=false:=bg (by omega)
theorem cq {α:Type} {l:List α} {i:Nat} {d:α} (h:i<l.length):List.getD l i d=l[i]:=by
 simp[List.getD,h]
theorem dV:bm=140737488355328:=rfl
def nb {α σ ρ:Type} (step:σ->α->σ⊕ρ) (fin:σ->ρ):List α->σ->ρ
 |[],s=>fin s
 |a::l,s=>match step s a with
  | .inl t=>nb step fin l t
  | .inr r=>r
theorem jV:jB=1000000000000000000000000:=rfl
theorem aqg {S ρ σ α:Type} {b:S->Option (S⊕ρ)} (mk:Nat->σ->S) (step:σ->α->σ⊕ρ) (fin:σ->ρ) (xs:List α) (Inv:Nat->σ->Prop) (hlen:xs.length<1000000000000000000)
  (aa: ∀i (ab:i<xs.length) s,Inv i s->(∃t,step s xs[i]=.inl t/\Inv (i+1) t/\b (mk i s)=some (.inl (mk (i+1) t)))\/(∃r,step s xs[i]=.inr r/\b (mk i s)=some (.inr r)))
  (ad: ∀s,Inv xs.length s->b (mk xs.length s)=some (.inr (fin s))) (s:σ) (ar:Inv 0 s):bN b (mk 0 s)=some (nb step fin xs s):=by
 have key: ∀(k i:Nat) (s:σ),i+k=xs.length->Inv i s->dR b (k+1) (mk i s)=some (nb step fin (xs.drop i) s):=by
  intro k
  induction k with
  |zero=>
   intro i s ab aX;have ab:i=xs.length:=by omega
   subst ab;simp only[dR,ad s aX,List.drop_length,nb]
  |succ k aO=>
   intro i s ab aX;have e0:i<xs.length:=by omega
   rw[List.drop_eq_getElem_cons e0,nb];rcases aa i e0 s aX with ⟨t,ai,aq,bc⟩|⟨r,ai,aq⟩
   ·rw[ai];simp only[dR,bc];exact aO (i+1) t (by omega) aq
   ·rw[ai];simp only[dR,aq]
 exact lB (n:=xs.length+1) (by rw[jV];omega) (key xs.length 0 s (by omega) ar)
theorem dY {S ρ σ:Type} {b:S->Option (S⊕ρ)} (mk:Nat->σ->S) (N:Nat) (Inv:Nat->σ->Prop) (Q:ρ->Prop) (hlen:N<1000000000000000000)
  (aa: ∀i,i<N-> ∀s,Inv i s->(∃t,Inv (i+1) t/\b (mk i s)=some (.inl (mk (i+1) t)))\/(∃r,Q r/\b (mk i s)=some (.inr r)))
  (ad: ∀s,Inv N s-> ∃r,Q r/\b (mk N s)=some (.inr r)) (s:σ) (ar:Inv 0 s): ∃r,bN b (mk 0 s)=some r/\Q r:=by
 have key: ∀(k i:Nat) (s:σ),i+k=N->Inv i s-> ∃r,dR b (k+1) (mk i s)=some r/\Q r:=by
  intro k
  induction k with
  |zero=>
   intro i s ab aX;have ab:i=N:=by omega
   subst ab;obtain ⟨r,q,e⟩:=ad s aX;exact ⟨r,by simp only[dR,e],q⟩
  |succ k aO=>
   intro i s ab aX;rcases aa i (by omega) s aX with ⟨t,aq,bc⟩|⟨r,ai,aq⟩
   ·obtain ⟨r,e,q⟩:=aO (i+1) t (by omega) aq;exact ⟨r,by simp only[dR,bc];exact e,q⟩
   ·exact ⟨r,by simp only[dR,aq],ai⟩
 obtain ⟨r,e,q⟩:=key N 0 s (by omega) ar;exact ⟨r,lB (n:=N+1) (by rw[jV];omega) e,q⟩
theorem eV {α:Type} {l:List α} {i:Nat} (h:i<l.length):l.take (i+1)=l.take i++[l[i]]:=by
 rw[List.take_add_one,List.getElem?_eq_getElem h];rfl
theorem gN: ∀a,Op.bytesLess a a=false
 |[]=>rfl
 |a::x=>by simp[Op.bytesLess,gN x]
theorem e6: ∀{a b c},Op.bytesLess a b=true->Op.bytesLess b c=true->Op.bytesLess a c=true
 |[],[],_,h,_=>by simp[Op.bytesLess]at h
 |_::_,[],_,h,_=>by simp[Op.bytesLess]at h
 |_,_::_,[],_,h=>by simp[Op.bytesLess]at h
 |[],_::_,_::_,_,_=>rfl
 |a::x,b::y,c::z,h,g=>by
  simp only[Op.bytesLess,Bool.or_eq_true,dd,bB,beq_iff_eq]at h g ⊢;rcases h with h |⟨rfl,h⟩
  ·rcases g with g |⟨rfl,g⟩
   ·exact .inl (UInt8.lt_trans h g)
   ·exact .inl h
  ·rcases g with g |⟨rfl,g⟩
   ·exact .inl g
   ·exact .inr ⟨rfl,e6 h g⟩
theorem hi: ∀a b,Op.bytesLess a b=true\/a=b\/Op.bytesLess b a=true
 |[],[]=>.inr (.inl rfl)
 |[],_::_=>.inl rfl
 |_::_,[]=>.inr (.inr rfl)
 |a::x,b::y=>by
  simp only[Op.bytesLess,Bool.or_eq_true,dd,bB,beq_iff_eq,List.cons.injEq];rcases UInt8.lt_or_lt_of_ne (a:=a) (b:=b)|>fun h=>(Decidable.em (a=b)).elim (fun e=>Or.inl e) (fun e=>Or.inr (h e)) with h |h |h
  ·subst h;rcases hi x y with h |h |h
   ·exact .inl (.inr ⟨rfl,h⟩)
   ·exact .inr (.inl ⟨rfl,h⟩)
   ·exact .inr (.inr (.inr ⟨rfl,h⟩))
  ·exact .inl (.inl h)
  ·exact .inr (.inr (.inl h))
theorem hJ {a b} (h:Op.bytesLess a b=true):Op.bytesLess b a=false:=by
 cases ag:Op.bytesLess b a
 ·rfl
 ·have:=e6 h ag;rw[gN]at this;cases this
theorem js {a b} (h:Op.bytesLess a b=true):a≠b:=by
 rintro rfl;rw[gN]at h;cases h
theorem yh {S ρ:Type} {b:S->Option (S⊕ρ)} (μ:S->Nat) (Inv:S->Prop) (Q:ρ->Prop)
  (h: ∀s,Inv s->(∃t,b s=some (.inl t)/\Inv t/\μ t<μ s)\/(∃r,b s=some (.inr r)/\Q r)) (s:S) (ar:Inv s) (hm:μ s<100000000000000000000): ∃r,bN b s=some r/\Q r:=by
 have key: ∀n s,μ s<n->Inv s-> ∃r,dR b n s=some r/\Q r:=by
  intro n
  induction n with
  |zero=>intro s h;omega
  |succ n aO=>
   intro s aQ ab;rcases h s ab with ⟨t,e,it,lt⟩|⟨r,e,q⟩
   ·obtain ⟨r,aq,q⟩:=aO t (by omega) it;exact ⟨r,by simp only[dR,e,aq],q⟩
   ·exact ⟨r,by simp only[dR,e],q⟩
 obtain ⟨r,e,q⟩:=key (μ s+1) s (by omega) ar;exact ⟨r,lB (n:=μ s+1) (by rw[jV];omega) e,q⟩
section
variable {α:Type} (key:α->af)
def ck (l:List α):Prop:=l.Pairwise fun a b=>Op.bytesLess (key a) (key b)=true
def cD (k:af):List α->Nat
 |[]=>0
 |a::l=>if Op.bytesLess (key a) k=true then cD k l+1 else 0
def gw (x:α):List α->List α
 |[]=>[x]
 |a::l=>if Op.bytesLess (key x) (key a)=true then x::a::l else a::gw x l
def gU (k:af) (l:List α):List α:=l.filter fun a=> !decide (key a=k)
variable {key}
theorem ck.tail {a:α} {l:List α} (h:ck key (a::l)):ck key l:=(List.pairwise_cons.1 h).2
theorem ck.head {a:α} {l:List α} (h:ck key (a::l)): ∀b∈l,Op.bytesLess (key a) (key b)=true:=(List.pairwise_cons.1 h).1
theorem mY (k:af): ∀l:List α,cD key k l<=l.length
 |[]=>Nat.le_refl _
 |a::l=>by
  unfold cD;split
  ·have:=mY k l;simp;omega
  ·simp
theorem Mi (k:af): ∀(l:List α) (i:Nat) (h:i<l.length),i<cD key k l->Op.bytesLess (key l[i]) k=true
 |[],i,h,_=>by simp at h
 |a::l,i,h,ab=>by
  unfold cD at ab;split at ab
  ·rename_i aR;cases i with
   |zero=>exact aR
   |succ i=>exact Mi k l i (by simpa using h) (by omega)
  ·omega
theorem Mh (k:af): ∀(l:List α),ck key l-> ∀(i:Nat) (h:i<l.length),cD key k l<=i->Op.bytesLess (key l[i]) k=false
 |[],_,i,h,_=>by simp at h
 |a::l,ar,i,h,ab=>by
  unfold cD at ab;split at ab
  ·rename_i aR;cases i with
   |zero=>omega
   |succ i=>exact Mh k l ar.tail i (by simpa using h) (by omega)
  ·rename_i aR;have aR:Op.bytesLess (key a) k=false:=by simpa using aR
   cases i with
   |zero=>exact aR
   |succ i=>
    have ao:i<l.length:=by simpa using h
    have aa:=ar.head l[i] (List.getElem_mem ao);cases ag:Op.bytesLess (key (a::l)[i+1]) k
    ·rfl
    ·have:=e6 aa ag;rw[aR]at this;cases this
theorem KF (k:af) (l:List α) (ar:ck key l) (i:Nat) (ab:i<=l.length) (aa: ∀(m:Nat) (h:m<l.length),m<i->Op.bytesLess (key l[m]) k=true) (ad: ∀(m:Nat) (h:m<l.length),i<=m->Op.bytesLess (key l[m]) k=false):i=cD key k l:=by
 have ao:=mY (key:=key) k l;rcases Nat.lt_trichotomy i (cD key k l) with h |h |h
 ·have a:=ad i (by omega) (Nat.le_refl _);have b:=Mi (key:=key) k l i (by omega) h;rw[a]at b;cases b
 ·exact h
 ·have a:=aa (cD key k l) (by omega) h;have b:=Mh k l ar (cD key k l) (by omega) (Nat.le_refl _);rw[a]at b;cases b
def eB (k:af) (l:List α):Bool:=l.any fun a=>decide (key a=k)
theorem D5 (k:af): ∀(l:List α),ck key l-> ∀(h:cD key k l<l.length),eB (key:=key) k l=decide (key l[cD key k l]=k)
 |[],_,h=>by simp at h
 |a::l,ar,h=>by
  unfold cD at h ⊢;split
  ·rename_i aR;rw[if_pos aR]at h;have cp:key a≠k:=js aR;have:=D5 k l ar.tail (by simpa using h);simp only[eB,List.any_cons,decide_eq_false cp,Bool.false_or];exact this
  ·rename_i aR;simp only[eB,List.any_cons,List.getElem_cons_zero];by_cases av:key a=k
   ·simp[av]
   ·have:(l.any fun a=>decide (key a=k))=false:=by
     rw[List.any_eq_false];intro b ag;have aa:=ar.head b ag;simp only[dd];intro art;rw[art]at aa;exact aR aa
    rw[this];simp[av]
theorem yt (k:af): ∀(l:List α),cD key k l=l.length->eB (key:=key) k l=false
 |[],_=>rfl
 |a::l,h=>by
  unfold cD at h;split at h
  ·rename_i aR;have cp:key a≠k:=js aR;have:=yt k l (by simpa using h);simp only[eB,List.any_cons,decide_eq_false cp,Bool.false_or];exact this
  ·simp at h
theorem DW (k:af) (l:List α) (h:eB (key:=key) k l=false):gU key k l=l:=by
 unfold gU;rw[List.filter_eq_self];intro a aR;unfold eB at h;rw[List.any_eq_false]at h;simpa using h a aR
theorem aaP {x:α}: ∀(l:List α),ck key l->eB (key:=key) (key x) l=false->l.take (cD key (key x) l)++[x]++l.drop (cD key (key x) l)=gw key x l
 |[],_,_=>rfl
 |a::l,ar,aQ=>by
  unfold cD gw;simp only[eB,List.any_cons,Bool.or_eq_false_iff,decide_eq_false_iff_not]at aQ;have cp:key a≠key x:=aQ.1;rcases hi (key a) (key x) with h |h |h
  ·rw[if_pos h,if_neg (by rw[hJ h];simp)];have:=aaP l ar.tail aQ.2;simp only[List.take_succ_cons,List.drop_succ_cons,List.cons_append];rw[this]
  ·exact absurd h cp
  ·rw[if_pos h,if_neg (by rw[hJ h];simp)];simp
theorem ahO {k:af} {l:List α} (h: ∀b∈l,Op.bytesLess k (key b)=true):gU key k l=l:=by
 unfold gU;rw[List.filter_eq_self];intro a aR;have:=js (h a aR);simp only[Bool.not_eq_true',decide_eq_false_iff_not];exact fun e=>this e.symm
theorem ag9 {x:α} {l:List α} (h: ∀b∈l,Op.bytesLess (key x) (key b)=true):gw key x l=x::l:=by
 cases l with
 |nil=>rfl
 |cons a l=>unfold gw;rw[if_pos (h a (by simp))]
theorem R4 {x:α}: ∀(l:List α),ck key l->eB (key:=key) (key x) l=true->l.set (cD key (key x) l) x=gw key x (gU key (key x) l)
 |[],_,aQ=>by simp[eB]at aQ
 |a::l,ar,aQ=>by
  unfold cD;rcases hi (key a) (key x) with h |h |h
  ·have cp:key a≠key x:=js h;simp only[eB,List.any_cons,decide_eq_false cp,Bool.false_or]at aQ;have:=R4 l ar.tail aQ;rw[if_pos h,List.set_cons_succ,this];have e:gU key (key x) (a::l)=a::gU key (key x) l:=by simp[gU,cp]
   rw[e]
   conv=>rhs;unfold gw
   rw[if_neg (by rw[hJ h];simp)]
  ·have bb: ∀b∈l,Op.bytesLess (key x) (key b)=true:=fun b ag=>by rw[<-h];exact ar.head b ag
   rw[if_neg (by rw[h,gN];simp),List.set_cons_zero];have e:gU key (key x) (a::l)=gU key (key x) l:=by simp[gU,h]
   rw[e,ahO bb,ag9 bb]
  ·exfalso;have cp:key a≠key x:=fun e=>js h e.symm
   simp only[eB,List.any_cons,decide_eq_false cp,Bool.false_or,List.any_eq_true,dd]at aQ;obtain ⟨b,ag,e⟩:=aQ;have aa:=e6 h (ar.head b ag);rw[e,gN]at aa;cases aa
theorem yu {x b:α}: ∀{l:List α},b∈gw key x l↔b=x\/b∈l
 |[]=>by simp[gw]
 |a::l=>by
  unfold gw;split
  ·simp
  ·simp only[List.mem_cons,yu (l:=l)];constructor
   ·rintro (h |h |h)
    ·exact .inr (.inl h)
    ·exact .inl h
    ·exact .inr (.inr h)
   ·rintro (h |h |h)
    ·exact .inr (.inl h)
    ·exact .inl h
    ·exact .inr (.inr h)
theorem DN {x:α}: ∀(l:List α),(gw key x l).length=l.length+1
 |[]=>rfl
 |a::l=>by
  unfold gw;split
  ·rfl
  ·simp[DN l]
theorem ck.ins {x:α}: ∀{l:List α},ck key l->eB (key:=key) (key x) l=false->ck key (gw key x l)
 |[],_,_=>by simp[gw,ck]
 |a::l,ar,aQ=>by
  simp only[eB,List.any_cons,Bool.or_eq_false_iff,decide_eq_false_iff_not]at aQ;unfold gw;split
  ·rename_i h;refine List.pairwise_cons.2 ⟨fun b ag=> ?_,ar⟩;rcases List.mem_cons.1 ag with rfl |ag
   ·exact h
   ·exact e6 h (ar.head b ag)
  ·rename_i h;have ad:Op.bytesLess (key a) (key x)=true:=by
    rcases hi (key a) (key x) with al |al |al
    ·exact al
    ·exact absurd al aQ.1
    ·exact absurd al h
   refine List.pairwise_cons.2 ⟨fun b ag=> ?_,ck.ins ar.tail aQ.2⟩;rcases yu.1 ag with rfl |ag
   ·exact ad
   ·exact ar.head b ag
theorem ck.wo {k:af} {l:List α} (h:ck key l):ck key (gU key k l):=List.Pairwise.filter _ h
theorem aau (k:af) (l:List α):eB (key:=key) k (gU key k l)=false:=by
 unfold eB gU;rw[List.any_eq_false];intro a aR;have:=(List.mem_filter.1 aR).2;simpa using this
theorem ahP {k:af} (l:List α):(gU key k l).length<=l.length:=List.length_filter_le _ _
end
open Go
theorem agG:J7 ()=some (true,()):=by kernel_rfl
open Go
theorem aoH {p:List cY} {i:Nat} (h:i<p.length):xw ((p,()),(i:Int),())=some (p[i].1,()):=by
 have aa:(decide (((i:Nat):Int)>=0))=true:=am (by omega);have ad:(decide (((i:Nat):Int)<(List.length p:Int)))=true:=am (by omega);have al:=ff i;simp only[xw,aa,ad,al,az,b7,bQ,cq h]
theorem ao8 {p:List cY} {i:Nat} (h:i<p.length) (hu:p[i].1=true) (ao:p[i].2.1=false):kh ((p,()),(i:Int),())=some (p[i].2.2.2.1,0,()):=by
 have ad:(decide (((i:Nat):Int)<(List.length p:Int)))=true:=am (by omega);have al:=ff i;simp only[kh,aoH h,hu,ao,ad,al,az,aM,du,b7,bQ,cq h]
theorem KR {p:List cY} {i:Nat} (h:i<p.length):xm ((p,()),(i:Int),())=some (p[i].1,()):=by
 have aa:(decide (((i:Nat):Int)>=0))=true:=am (by omega);have ad:(decide (((i:Nat):Int)<(List.length p:Int)))=true:=am (by omega);have al:=ff i;simp only[xm,aa,ad,al,az,b7,bQ,cq h]
theorem aoI {p:List cY} {i:Nat} (h:i<p.length):Hi ((i:Int),p,())=some (p[i].1,p,()):=by
 have aa:(decide (((i:Nat):Int)>=0))=true:=am (by omega);have ad:(decide (((i:Nat):Int)<(List.length p:Int)))=true:=am (by omega);have al:=ff i;simp only[Hi,aa,ad,al,az,b7,bQ,cq h]
theorem apH {p:List cY} {i:Nat} (h:i<p.length) (hu:p[i].1=true) (ao:p[i].2.1=false):xz ((p,()),(i:Int),())=some (p[i].2.2.2.1,0,()):=by
 have ad:(decide (((i:Nat):Int)<(List.length p:Int)))=true:=am (by omega);have al:=ff i;simp only[xz,KR h,hu,ao,ad,al,az,aM,du,b7,bQ,cq h]
def mk (ns:List bs) (r:Nat->Int):List cY:=ns.mapIdx fun i n=>(true,false,r i,n,())
theorem lH (ns:List bs) (r:Nat->Int):(mk ns r).length=ns.length:=by simp[mk]
theorem lG {ns:List bs} {r:Nat->Int} {i:Nat} (h:i<(mk ns r).length):(mk ns r)[i]=(true,false,r i,ns[i]'(by rw[<-lH ns r];exact h),()):=by simp[mk]
theorem LQ {ns:List bs} {r:Nat->Int} {i:Nat} (h:i<ns.length) (d:cY):List.getD (mk ns r) i d=(true,false,r i,ns[i],()):=by
 rw[cq (by rw[lH];exact h),lG]
theorem R0 {ns:List bs} {r:Nat->Int} {i:Nat} (h:i<ns.length) (v:Int):(mk ns r).set i (true,false,v,ns[i],())=mk ns (fun j=>if j=i then v else r j):=by
 apply List.ext_getElem
 ·simp[mk]
 ·intro j aa ad;rw[lG,List.getElem_set];split
  ·rename_i e;subst e;simp
  ·rename_i e;rw[lG];simp[Ne.symm e]
theorem yw {ns:List bs} {r fD:Nat->Int} (h: ∀i,i<ns.length->r i=fD i):mk ns r=mk ns fD:=by
 apply List.ext_getElem
 ·simp[mk]
 ·intro j aa ad;rw[lG,lG,h j (by rw[<-lH ns r];exact aa)]
theorem ahe (ns:List bs) (n:bs) (r:Nat->Int):mk ns r++[(true,false,r ns.length,n,())]=mk (ns++[n]) r:=by
 simp[mk,List.mapIdx_append]
theorem anY {ns:List bs} {r:Nat->Int} {i:Nat} (h:i<ns.length):kh ((mk ns r,()),(i:Int),())=some (ns[i],0,()):=by
 have cb:i<(mk ns r).length:=by rw[lH];exact h
 rw[ao8 cb (by rw[lG]) (by rw[lG]),lG]
theorem KJ {ns:List bs} {r:Nat->Int} {i:Nat} (h:i<ns.length):xz ((mk ns r,()),(i:Int),())=some (ns[i],0,()):=by
 have cb:i<(mk ns r).length:=by rw[lH];exact h
 rw[apH cb (by rw[lG]) (by rw[lG]),lG]
theorem ZA {p:List cY} (h:p.length<=100000):BH ((p,()),())=some (p,()):=by
 have aa:(decide ((List.length ([]:List (cY))+List.length p)*136<=bm))=true:=am (by rw[dV];simp;omega);simp only[BH,aa,az,List.nil_append]
def dL (ks:List Nat):List Int:=ks.map fun (k:Nat)=>(k:Int)
theorem iQ (ks:List Nat):(dL ks).length=ks.length:=by simp[dL]
theorem tQ {ks:List Nat} {i:Nat} (h:i<ks.length):List.getD (dL ks) i 0=((ks[i]:Nat):Int):=by
 rw[cq (by rw[iQ];exact h)];simp[dL]
theorem agI {ns:List bs} {r:Nat->Int} {n:bs} {ks:List Nat} (av:n.2.2.1=dL ks) (aA: ∀k∈ks,k<ns.length) (ao:ks.length<=1000):
  JW (0,(mk ns r,()),n,[],0,0,())=some (.inr ((mk ns r,()),n,[],0,0,())):=by
 obtain ⟨z,aa,ad⟩:=dY (b:=BE) (fun i (_:Unit)=>((i:Int),(mk ns r,()),n,[],0,0,())) ks.length (fun _ _=>True) (fun z=>z=.inr ((mk ns r,()),n,[],0,0,())) (by omega)
  (fun i ab _ _=>by
   left;refine ⟨(),trivial,?_⟩;have ai:(decide (((i:Nat):Int)<((List.length n.2.2.1):Int)))=true:=am (by rw[av,iQ];omega);have aq:=ff i;have bc:=fL i (by omega);have hi':ks[i]<(mk ns r).length:=by rw[lH];exact aA _ (List.getElem_mem ab)
   have iP:List.getD n.2.2.1 i 0=((ks[i]:Nat):Int):=by rw[av,tQ ab]
   simp only[BE,ai,aq,az,b7,bQ,iP,KR hi',lG,du,aM,bc])
  (fun _ _=>by
   have ai:(decide (((ks.length:Nat):Int)<((List.length n.2.2.1):Int)))=false:=bg (by rw[av,iQ];omega);exact ⟨_,rfl,by simp only[BE,ai,aM]⟩) () trivial
 subst ad;exact aa
theorem agJ {ns:List bs} {r:Nat->Int} {n:bs} (ao:ns.length<=1000):
  JX (0,(mk ns r,()),n,[],0,0,())=some (.inl ((ns.length:Int),(mk ns r,()),n,[],0,0,())):=by
 obtain ⟨z,aa,ad⟩:=dY (b:=BF) (fun i (_:Unit)=>((i:Int),(mk ns r,()),n,[],0,0,())) ns.length (fun _ _=>True) (fun z=>z=.inl ((ns.length:Int),(mk ns r,()),n,[],0,0,())) (by omega)
  (fun i ab _ _=>by
   left;refine ⟨(),trivial,?_⟩;have ai:(decide (((i:Nat):Int)<((List.length (mk ns r)):Int)))=true:=am (by rw[lH];omega);have aq:=ff i;have bc:=fL i (by omega);simp only[BF,ai,aq,az,b7,bQ,LQ ab,bc])
  (fun _ _=>by
   have ai:(decide (((ns.length:Nat):Int)<((List.length (mk ns r)):Int)))=false:=bg (by rw[lH];omega);exact ⟨_,rfl,by simp only[BF,ai,aM]⟩) () trivial
 subst ad;exact aa
theorem agK {ns:List bs} {n:bs} {ks:List Nat} {c:Int} (av:n.2.2.1=dL ks) (aA: ∀k∈ks,k<ns.length) (aQ:ks.Nodup) (ao:ks.length<=1000):
  JY (c,0,n,[],0,0,mk ns (fun _=>1),())=some (.inl (c,[],0,0,mk ns (fun j=>if j∈ks then 2 else 1),())):=by
 obtain ⟨z,aa,ad⟩:=dY (b:=BG) (fun i (l:List cY)=>(c,(i:Int),n,[],0,0,l,())) ks.length (fun i l=>l=mk ns (fun j=>if j∈ks.take i then 2 else 1)) (fun z=>z=.inl (c,[],0,0,mk ns (fun j=>if j∈ks then 2 else 1),())) (by omega)
  (fun i ab l ao=>by
   left;subst ao;refine ⟨_,rfl,?_⟩;have lq:ks[i]<ns.length:=aA _ (List.getElem_mem ab);have ai:(decide (((i:Nat):Int)<((List.length n.2.2.1):Int)))=true:=am (by rw[av,iQ];omega);have aq:=ff i;have bc:=fL i (by omega);have bz:(decide ((0:Int)<=((ks[i]:Nat):Int)))=true:=am (by omega);have dh: ∀r,(decide (((ks[i]:Nat):Int)<(List.length (mk ns r):Int)))=true:=fun r=>am (by rw[lH];omega)
   have po:ks[i]∉ks.take i:=fun hm=>by
    have ad:=eV ab;have dT:(ks.take (i+1)).Nodup:=aQ.sublist (List.take_sublist _ _);rw[ad,List.nodup_append]at dT;exact dT.2.2 _ hm _ (by simp) rfl
   have iP:List.getD n.2.2.1 i 0=((ks[i]:Nat):Int):=by rw[av,tQ ab]
   simp only[BG,ai,aq,az,b7,bQ,iP,bz,dh,LQ lq,bc,if_neg po];have c7:i64.wrap ((1:Int)+1)=2:=by rw[cU (by omega)];omega
   have ld:mk ns (fun j=>if j=ks[i] then 2 else if j∈ks.take i then 2 else 1)=mk ns (fun j=>if j∈ks.take (i+1) then 2 else 1):=yw fun j _=>by
    have hm:j∈ks.take (i+1)↔(j∈ks.take i\/j=ks[i]):=by rw[eV ab,List.mem_append,List.mem_singleton]
    by_cases ay:j=ks[i]
    ·rw[if_pos ay,if_pos (hm.2 (.inr ay))]
    ·rw[if_neg ay];by_cases ad:j∈ks.take i
     ·rw[if_pos ad,if_pos (hm.2 (.inl ad))]
     ·rw[if_neg ad,if_neg (fun h=>(hm.1 h).elim ad ay)]
   rw[c7,R0 lq,ld])
  (fun l ao=>by
   subst ao;have ai:(decide (((ks.length:Nat):Int)<((List.length n.2.2.1):Int)))=false:=bg (by rw[av,iQ];omega);exact ⟨_,rfl,by simp only[BG,ai,aM,List.take_length]⟩) (mk ns (fun _=>1)) (yw fun j _=>by simp)
 subst ad;exact aa
theorem aaU {ns:List bs} {n:bs} {ks:List Nat} (av:n.2.2.1=dL ks) (aA: ∀k∈ks,k<ns.length) (aQ:ks.Nodup) (ao:ks.length<=1000) (gQ:ns.length<=900):
  rO ((mk ns (fun _=>1),()),n,())=some (((mk (ns++[n]) (fun j=>if j∈ks then 2 else 1),()),((ns.length:Int),(0,()))),()):=by
 have ai:(decide (((ns.length:Nat):Int)>=4096))=false:=bg (by omega);have hlen:(mk ns (fun _=>1)).length=ns.length:=lH _ _;have aq:(decide (((ns.length:Nat):Int)=((List.length (mk ns (fun _=>1))):Int)))=true:=am (by rw[hlen]);have bc: ∀d:cY,(decide ((List.length (mk ns (fun _=>1))+List.length ([d]:List (cY)))*136<=bm))=true:=fun d=>am (by rw[hlen,dV];simp;omega)
 have bz:(decide ((0:Int)<=((ns.length:Nat):Int)))=true:=am (by omega);have dh: ∀d:cY,(decide (((ns.length:Nat):Int)<(List.length (mk ns (fun _=>1)++[d]):Int)))=true:=fun d=>am (by simp[hlen];omega)
 have c7: ∀d:cY,List.set (mk ns (fun _=>1)++[d]) ns.length (true,false,1,n,())=mk (ns++[n]) (fun _=>1):=fun d=>by
  rw[<-ahe,<-hlen,List.set_append_right _ _ (Nat.le_refl _)];simp
 have ad:=agK (ns:=ns++[n]) (n:=n) (ks:=ks) (c:=(ns.length:Int)) av (fun k av=>by have:=aA k av;simp;omega) aQ ao;simp only[rO,agI av aA ao,agJ (show ns.length<=1000 by omega),ai,aM,ZA (show (mk ns (fun _=>1)).length<=100000 by omega),aq,bc,az,JV,bz,dh,b7,bQ,c7,ad]
theorem agk {ns:List bs} {r:Nat->Int} {k:Nat} (av:k<ns.length) (aA:r k=2):
  Jp ([(k:Int)],[],mk ns r,())=some (.inl ([],mk ns (fun j=>if j=k then 1 else r j),())):=by
 obtain ⟨z,aa,ad⟩:=dY (b:=Bw) (fun i (q:List Int×List cY)=>(q.1,[],q.2,())) 1 (fun i q=>(i=0/\q=([(k:Int)],mk ns r))\/(i=1/\q=([],mk ns (fun j=>if j=k then 1 else r j))))
  (fun z=>z=.inl ([],mk ns (fun j=>if j=k then 1 else r j),())) (by omega)
  (fun i ab q aN=>by
   left;obtain ⟨rfl,rfl⟩:=aN.resolve_right (by omega);refine ⟨_,.inr ⟨rfl,rfl⟩,?_⟩;have fF:k<(mk ns r).length:=by rw[lH];exact av
   have ai:=ff k;have aq: ∀fD,(decide ((k:Int)<(List.length (mk ns fD):Int)))=true:=fun fD=>am (by rw[lH];omega)
   have bc:i64.wrap ((2:Int)-1)=1:=by rw[cU (by omega)];omega
   have bz:List.drop (Int.toNat (1:Int)) (List.take (Int.toNat (List.length [(k:Int)]:Int)) [(k:Int)])=[]:=rfl;have dh:List.getD [(k:Int)] 0 0=(k:Int):=rfl;have c7:(decide ((((List.length [(k:Int)]):Int):Int)>(0:Int)))=true:=rfl;have iP:(decide (((0:Int):Int)<(List.length [(k:Int)]:Int)))=true:=rfl;have ld:(decide (((1:Int):Int)<=(List.length [(k:Int)]:Int))&&decide (((List.length [(k:Int)]:Int):Int)<=(List.length [(k:Int)]:Int)))=true:=rfl;have o9:(decide ((1:Int)=(0:Int)))=false:=rfl;simp only[Bw,c7,iP,ld,az,bz,dh,aoI fF,lG,du,aM,ai,aq,b7,bQ,LQ av,aA,bc,R0 av,if_true,o9];rfl)
  (fun q aN=>by
   obtain ⟨-,rfl⟩:=aN.resolve_left (by omega);have c7:(decide ((((List.length ([]:List Int)):Int):Int)>(0:Int)))=false:=rfl;exact ⟨_,rfl,by simp only[Bw,c7,aM]⟩) ([(k:Int)],mk ns r) (.inl ⟨rfl,rfl⟩)
 subst ad;exact aa
theorem agl {ns:List bs} {r:Nat->Int} {k:Nat} (av:k<ns.length) (aA:r k=2) (ao:ns.length<=1000):
  xl ((mk ns r,()),(k:Int),())=some ((mk ns (fun j=>if j=k then 1 else r j),()),0,()):=by
 have fF:k<(mk ns r).length:=by rw[lH];exact av
 simp only[xl,KR fF,lG,du,aM,ZA (show (mk ns r).length<=100000 by rw[lH];omega),agk av aA]
def bX (s:ah) (k:af):Bool:= !(Op.bytesLess k s.1)&&(decide (s.2.1=[])||Op.bytesLess k s.2.1)
theorem aaN (s:ah) (k:af):yk (s,k,())=some (bX s k,()):=by
 simp only[yk,bX];cases aa:Op.bytesLess k s.1
 ·cases ad:decide (s.2.1=[])
  ·simp[ad]
  ·simp[ad]
 ·simp
def inS (s:ah) (t:List ak):List ak:=t.filter fun p=>bX s p.1
theorem ql (s:ah) (t:List ak):(inS s t).length<=t.length:=List.length_filter_le _ _
theorem aab (t:List ak) (s:ah) (ao:t.length<=1000000000000):BT (t,s,())=some (inS s t,()):=by
 obtain ⟨z,aa,ad⟩:=dY (b:=A9) (fun i (out:List ak)=>(t,(i:Int),s,out,())) t.length (fun i out=>out=inS s (t.take i)) (fun z=>z=.inl (inS s t,())) (by omega)
  (fun i ab out an=>by
   left;subst an;refine ⟨_,rfl,?_⟩;have ai:=gA (i:=i) (l:=t) (by omega);have aq:=ff i;have bc:=fL i (by omega);have bz: ∀p:ak,(decide ((List.length (inS s (t.take i))+List.length ([p]:List (ak)))*40<=bm))=true:=fun p=>am (by
    have:=ql s (t.take i);rw[dV];simp at this ⊢;omega)
   have dh:inS s (t.take (i+1))=inS s (t.take i)++(bif bX s t[i].1 then [t[i]] else []):=by
    rw[eV ab];unfold inS;rw[List.filter_append];cases h:bX s t[i].1<;>simp[h]
   rw[dh];simp only[A9,ai,aq,az,b7,bQ,cq ab,aaN];cases h:bX s t[i].1
   ·simp only[aM,bc,List.append_nil]
   ·simp only[az,bc,bz])
  (fun out an=>by
   subst an;have ai:=hk t;exact ⟨_,rfl,by simp only[A9,ai,aM,List.take_length]⟩) [] rfl
 subst ad;have db:Ir (t,0,s,[],())=some (.inl (inS s t,())):=aa;simp only[BT,db]
def sA (p:ak) (t:List ak):List ak:=t.filter fun x=> !decide (x.1=p.1)
def ins (p:ak):List ak->List ak
 |[]=>[p]
 |x::t=>bif Op.bytesLess x.1 p.1 then x::ins p t else p::sA p (x::t)
abbrev Se:=(Bool×ak×List ak×Unit)⊕Unit
def u6 (p:ak) (s:Bool×List ak) (x:ak):(Bool×List ak)⊕Se:=
 let i:=s.1|| !(Op.bytesLess x.1 p.1)
 let o:=bif !s.1&& !(Op.bytesLess x.1 p.1) then s.2++[p] else s.2
 .inl (i,bif !decide (x.1=p.1) then o++[x] else o)
def u5 (p:ak) (s:Bool×List ak):Se:=.inl (s.1,p,s.2,())
theorem Zj (p:ak): ∀(t out:List ak),nb (u6 p) (u5 p) t (true,out)=.inl (true,p,out++sA p t,())
 |[],out=>by simp[nb,sA,u5]
 |x::t,out=>by
  simp only[nb,u6,Bool.true_or,du,Bool.false_and,aM];rw[Zj p t];by_cases h:x.1=p.1<;>simp[sA,h]
theorem Y1 (p:ak): ∀(t out:List ak),∃b o,nb (u6 p) (u5 p) t (false,out)=.inl (b,p,o,())/\(bif b then o else o++[p])=out++ins p t
 |[],out=>⟨false,out,rfl,rfl⟩
 |x::t,out=>by
  simp only[nb,u6,Bool.false_or,dm,Bool.true_and];cases h:Op.bytesLess x.1 p.1
  ·simp only[dm,az];rw[Zj];refine ⟨_,_,rfl,?_⟩;have e:ins p (x::t)=p::sA p (x::t):=by simp only[ins,h,aM]
   rw[e];by_cases ad:x.1=p.1<;>simp[sA,ad]
  ·have ad:x.1≠p.1:=js h;simp only[du,aM,ad,decide_false,dm,az];obtain ⟨b,o,ai,aq⟩:=Y1 p t (out++[x]);refine ⟨b,o,ai,?_⟩;rw[aq];simp[ins,h]
theorem ao4 (p:ak) (t:List ak):(sA p t).length<=t.length:=List.length_filter_le _ _
theorem L1 (p:ak): ∀t,(ins p t).length<=t.length+1
 |[]=>by simp[ins]
 |x::t=>by
  have aa:=L1 p t;have ad:=ao4 p (x::t);cases h:Op.bytesLess x.1 p.1<;>simp[ins,h]at ad ⊢ <;>omega
theorem agB (t:List ak) (p:ak) (ao:t.length<1000000):Du (t,p,())=some (ins p t,()):=by
 have N6:JQ (t,false,(0:Int),p,([]:List ak),())=some (nb (u6 p) (u5 p) t (false,[])):=by
  have:=aqg (b:=Bz) (fun I (s:Bool×List ak)=>(t,s.1,(I:Int),p,s.2,())) (u6 p) (u5 p) t (fun I s=>s.2.length<=I+(if s.1 then 1 else 0)) (by omega) (fun I h s ar=>by
    obtain ⟨i,out⟩:=s;have an:out.length<=I+1:=by simp only at ar;split at ar<;>omega
    left;refine ⟨_,rfl,?_,?_⟩
    ·cases i<;>cases ag:Op.bytesLess t[I].1 p.1<;>by_cases av:t[I].1=p.1<;>simp[ag,av]at ar ⊢ <;>omega
    ·simp-implicitDefEqProofs (disch:=omega) only[Bz,Qx,Qy,am,bg,cU,cq,az,aM,b7,bQ,dV,List.length_cons,List.length_nil,List.length_append,Int.natCast_add,Int.cast_ofNat_Int];cases i<;>cases ag:Op.bytesLess t[I].1 p.1<;>by_cases av:t[I].1=p.1<;>simp-implicitDefEqProofs (disch:=omega) [ag,av,am]) (fun s ar=>by
    unfold Bz;simp-implicitDefEqProofs (disch:=omega) only[am,bg,az,aM,u5]) (false,[]) (by simp)
  exact this
 obtain ⟨b,o,ai,aq⟩:=Y1 p t [];unfold Du;simp only[N6,ai];simp only[List.nil_append]at aq;have hlen:=L1 p t;cases b
 ·simp only[aM]at aq;have:o.length+1<=t.length+1:=by rw[<-aq]at hlen;simpa using hlen
  simp-implicitDefEqProofs (disch:=omega) only[dm,az,am,dV,List.length_cons,List.length_nil,aq]
 ·simp only[az]at aq;simp only[du,aM,aq]
def qw (n:Int):af:=((pU (n,())).map (·.1)).getD []
def ZI (n:Nat):Bool:=match pU ((n:Int),()) with
 |some (k,_)=>decide (k.length<=11)&&decide (1<=k.length)
 |none=>false
theorem apo: ∀n:Fin 256,ZI n.val=true:=by decide+kernel
theorem YB (n:Int) (bY:0<=n) (aa:n<256):pU (n,())=some (qw n,())/\(qw n).length<=11/\1<=(qw n).length:=by
 obtain ⟨m,rfl⟩:=Int.eq_ofNat_of_zero_le bY;have:=apo ⟨m,by omega⟩;unfold ZI at this;unfold qw;simp only at this;cases h:pU ((m:Int),()) with
 |none=>simp[h]at this
 |some x=>
  obtain ⟨k,u⟩:=x;simp[h]at this;simp;omega
def ahD (n:Int):af:=List.getD [[],[118],[119,120],[120,121,122]] (n%4).toNat []
def m5 (x:fc):ak:=(qw x.1,ahD x.2.1,x.2.2.1%4,())
def tM (x:fc):Prop:=(0<=x.1/\x.1<256)/\(0<=x.2.1/\x.2.1<256)/\(0<=x.2.2.1/\x.2.2.1<256)
theorem apA (x:fc) (h:tM x):C5 (x,())=some (m5 x,()):=by
 obtain ⟨a,b,c,u⟩:=x;obtain ⟨aa,ad,al⟩:=h;simp only at aa ad al;obtain ⟨a1,k2,b8⟩:=YB a aa.1 aa.2;have ai:Int.tmod b 4=b%4:=Int.tmod_eq_emod_of_nonneg ad.1;have aq:Int.tmod c 4=c%4:=Int.tmod_eq_emod_of_nonneg al.1;unfold C5;simp-implicitDefEqProofs (disch:=omega) only[a1,ai,aq,cU,am,b7,az,List.length_cons,List.length_nil];rfl
def mx (l:List fc):List ak:=l.foldl (fun t x=>ins (m5 x) t) []
theorem Lh (l:List fc):(mx l).length<=l.length:=by
 have key: ∀(l:List fc) (t:List ak),(l.foldl (fun t x=>ins (m5 x) t) t).length<=t.length+l.length:=by
  intro l
  induction l with
  |nil=>intro t;simp
  |cons x l aO=>
   intro t;have aa:=aO (ins (m5 x) t);have ad:=L1 (m5 x) t;simp only[List.foldl_cons,List.length_cons];omega
 have:=key l [];simp only[List.length_nil,Nat.zero_add]at this;exact this
theorem apt (l:List fc) (h: ∀x∈l,tM x) (ao:l.length<1000000000000000000):x7 (l,())=some (mx (l.take 40),()):=by
 have N6:Hf (l,(0:Int),([]:List ak),())=some (.inl (mx (l.take 40),())):=by
  obtain ⟨r,aa,ad⟩:=dY (b:=wQ) (fun I (t:List ak)=>(l,(I:Int),t,())) (min l.length 40) (fun I t=>t=mx (l.take I)) (fun r=>r=.inl (mx (l.take 40),())) (by omega) (fun I dr t aU=>by
    left;have aq9:I<l.length:=by omega
    refine ⟨ins (m5 l[I]) t,?_,?_⟩
    ·show _=mx _;rw[List.take_add_one,List.getElem?_eq_getElem aq9,aU];simp only[mx,Option.toList_some,List.foldl_append,List.foldl_cons,List.foldl_nil]
    ·have hlen:t.length<=40:=by
      rw[aU];have:=Lh (l.take I);simp only[List.length_take]at this;omega
     have aP:=apA l[I] (h _ (List.getElem_mem _));have aN:=agB t (m5 l[I]) (by omega);simp-implicitDefEqProofs (disch:=omega) only[wQ,AR,am,bg,cU,cq,az,aM,b7,bQ,aP,aN,Int.natCast_add,Int.cast_ofNat_Int]) (fun t aU=>by
    refine ⟨.inl (t,()),?_,?_⟩
    ·simp only[Sum.inl.injEq,cw,and_true];rw[aU];congr 1;rcases Nat.le_total l.length 40 with h |h
     ·rw[Nat.min_eq_left h,List.take_of_length_le h,List.take_length]
     ·rw[Nat.min_eq_right h]
    ·rcases Nat.lt_or_ge (min l.length 40) l.length with h |h
     ·simp-implicitDefEqProofs (disch:=omega) only[wQ,AR,am,bg,az,aM]
     ·simp-implicitDefEqProofs (disch:=omega) only[wQ,AR,am,bg,az,aM]) [] (by simp[mx])
  have al:Hf (l,(0:Int),[],())=some r:=aa;rw[al,ad]
 unfold x7;simp only[N6]
def oJ (k:af):Prop:=(tJ (k,())).isSome=true
structure HD (m:a6):Prop where
 kind:1<=m.1/\m.1<=6
 key:m.1=1\/m.1=2->oJ m.2.1
 alike:m.1=4\/m.1=5->(Bb (m.2.2.2.2.1,m.2.2.2.2.2.1,())).isSome=true
theorem aoq {p:ak} (h:oJ p.1): ∃c,Hr (p,())=some c:=by
 obtain ⟨r,aA⟩:=Option.isSome_iff_exists.1 h;simp only[Hr,aA];cases (!decide ((r.2.1:Int)=(0:Int)))
 ·cases decide ((r.1.2.1:Int)=(1:Int))
  ·cases decide ((r.1.2.1:Int)=(2:Int))
   ·cases decide ((r.1.2.1:Int)=(3:Int))<;>exact ⟨_,rfl⟩
   ·exact ⟨_,rfl⟩
  ·exact ⟨_,rfl⟩
 ·exact ⟨_,rfl⟩
theorem aqs (l:List ak) (h: ∀p∈l,oJ p.1) (ao:l.length<=1000000): ∃c,abs (l,())=some c:=by
 obtain ⟨z,aa,ad⟩:=dY (b:=A8) (fun i (q:Int×Int)=>(l,(i:Int),0,0,q.1,q.2,())) l.length (fun _ _=>True) (fun z=> ∃x,z=.inl x) (by omega)
  (fun i ab q _=>by
   left;obtain ⟨c,aB⟩:=aoq (h l[i] (List.getElem_mem ab));have ai:=gA (i:=i) (l:=l) (by omega);have aq:=ff i;have bc:=fL i (by omega);exact ⟨(i64.wrap (q.1+c.1.1),i64.wrap (q.2+c.1.2.1)),trivial,by simp only[A8,ai,aq,az,b7,bQ,cq ab,aB,bc]⟩)
  (fun q _=>by
   have ai:=hk l;exact ⟨_,⟨_,rfl⟩,by simp only[A8,ai,aM];rfl⟩) (0,0) trivial
 obtain ⟨x,rfl⟩:=ad;have db:Iq (l,0,0,0,0,0,())=some (.inl x):=aa;exact ⟨_,by simp only[abs,db];rfl⟩
theorem Y9 {k:af} (h:oJ k): ∃c,Bv (k,())=some c:=by
 obtain ⟨r,aA⟩:=Option.isSome_iff_exists.1 h;simp only[Bv,aA];cases decide ((r.2.1:Int)=(0:Int))<;>exact ⟨_,rfl⟩
theorem aop (s:dX) {m:a6} (h:HD m): ∃c,Hs (s,m,())=some c:=by
 simp only[Hs,w5,BV];by_cases aa:m.1=1
 ·obtain ⟨e,he⟩:=Y9 (h.key (.inl aa));simp only[am aa,az,he];cases e.1<;>exact ⟨_,rfl⟩
 ·by_cases ad:m.1=2
  ·obtain ⟨e,he⟩:=Y9 (h.key (.inr ad));simp only[bg aa,aM,am ad,az,he];cases e.1<;>exact ⟨_,rfl⟩
  ·by_cases bu:m.1=6
   ·simp only[bg aa,bg ad,aM,am bu,az];exact ⟨_,rfl⟩
   ·by_cases al:m.1=3
    ·simp only[bg aa,bg ad,bg bu,aM,am al,az];exact ⟨_,rfl⟩
    ·obtain ⟨a,aR⟩:=Option.isSome_iff_exists.1 (h.alike (by have:=h.kind;omega));simp only[bg aa,bg ad,bg bu,bg al,aM,aR];cases a.1
     ·exact ⟨_,rfl⟩
     ·cases decide ((m.1:Int)=(5:Int))<;>exact ⟨_,rfl⟩
theorem af1 {n:bs} (bY:n.2.2.1=[]) (h: ∀p∈n.1,oJ p.1) (ao:n.1.length<=1000000): ∃s,pV (n,())=some s:=by
 obtain ⟨c,aB⟩:=aqs n.1 h ao;have ai:(decide ((((List.length n.2.2.1):Int):Int)=(0:Int)))=true:=by rw[bY];rfl
 simp only[pV,ai,az,aB,Kn];exact ⟨_,rfl⟩
theorem aqp {n:bs} (bY:n.2.2.1≠[]) (ar:n.2.2.2.1.length<=1000000) (h: ∀m∈n.2.2.2.2.1,HD m) (ao:n.2.2.2.2.1.length<=1000000): ∃s,pV (n,())=some s:=by
 have b6:(decide ((((List.length n.2.2.1):Int):Int)=(0:Int)))=false:=bg (by
  have:=List.length_pos_iff.2 bY;omega)
 obtain ⟨z,aa,x,rfl⟩:=dY (b:=BC) (fun i (q:dX)=>((i:Int),n,0,0,0,0,q,())) n.2.2.2.1.length (fun _ _=>True) (fun z=> ∃x:dX,z=.inl (n,0,0,0,0,x,())) (by omega)
  (fun i ab q _=>by
   left;have ai:(decide (((i:Nat):Int)<((List.length n.2.2.2.1):Int)))=true:=am (by omega);have aq:=ff i;have bc:=fL i (by omega);simp only[BC,ai,aq,az,b7,bQ,cq ab,bc,KQ];exact ⟨_,trivial,rfl⟩)
  (fun q _=>by
   have ai:(decide (((n.2.2.2.1.length:Nat):Int)<((List.length n.2.2.2.1):Int)))=false:=bg (by omega);exact ⟨_,⟨q,rfl⟩,by simp only[BC,ai,aM]⟩) (((0:Int),((0:Int),())),(((0:Int),((0:Int),())),())) trivial
 have db:JT (0,n,0,0,0,0,(((0:Int),((0:Int),())),(((0:Int),((0:Int),())),())),())=some (.inl (n,0,0,0,0,x,())):=aa;obtain ⟨z,ad,y,rfl⟩:=dY (b:=BD) (fun i (q:dX)=>((i:Int),n,0,0,0,0,q,())) n.2.2.2.2.1.length (fun _ _=>True) (fun z=> ∃x,z=.inl x) (by omega)
  (fun i ab q _=>by
   left;obtain ⟨c,aB⟩:=aop q (h n.2.2.2.2.1[i] (List.getElem_mem ab));have ai:(decide (((i:Nat):Int)<((List.length n.2.2.2.2.1):Int)))=true:=am (by omega);have aq:=ff i;have bc:=fL i (by omega);exact ⟨c.1,trivial,by simp only[BD,ai,aq,az,b7,bQ,cq ab,aB,bc]⟩)
  (fun q _=>by
   have ai:(decide (((n.2.2.2.2.1.length:Nat):Int)<((List.length n.2.2.2.2.1):Int)))=false:=bg (by omega);exact ⟨_,⟨_,rfl⟩,by simp only[BD,ai,aM];rfl⟩) x trivial
 have gO:JU (0,n,0,0,0,0,x,())=some (.inl y):=ad;exact ⟨_,by simp only[pV,b6,aM,db,gO];rfl⟩
def six:List af:=[[97,47],[98,47],[97,47,98,47],[99,47],[100,47],[]]
def mV (s:ah):Prop:=s.2.1=[]\/Op.bytesLess s.1 s.2.1=true
def bI (k p:af):Bool:=decide (p.length<=k.length)&&decide (k.take p.length=p)
theorem DB (k p:af):rk (k,p,())=some (bI k p,()):=by
 unfold rk bI;by_cases h:p.length<=k.length
 ·have a7:((k.length:Int)>=(p.length:Int)):=by omega
  have aY:((0:Int)<=(p.length:Int)):=by omega
  have c3:((p.length:Int)<=(k.length:Int)):=by omega
  simp only[a7,aY,c3,am,az,b7,bQ,List.drop_zero,h,Bool.true_and]
 ·have a7: ¬((k.length:Int)>=(p.length:Int)):=by omega
  simp only[a7,bg h,bg,aM,not_false_eq_true,Bool.false_and]
def c2 (p:af):ah:=(p,(if p=[] then [] else p.dropLast++[48]),())
theorem aaC: ∀(q k:af),(!Op.bytesLess k (q++[47])&&Op.bytesLess k (q++[48]))=bI k (q++[47])
 |[],[]=>by decide
 |[],x::k=>by
  show (!(decide (x<47)||(x==47&&Op.bytesLess k []))&&(decide (x<48)||(x==48&&Op.bytesLess k [])))=bI (x::k) [47];have e:Op.bytesLess k []=false:=by cases k<;>rfl
  rw[e];unfold bI;simp only[Bool.and_false,Bool.or_false,List.length_cons,List.length_nil,List.take_succ_cons,List.take_zero];have aa:decide (0+1<=k.length+1)=true:=am (by omega);rw[aa,Bool.true_and];have ad: ∀x:UInt8,(!decide (x<47)&&decide (x<48))=decide (x=47):=by
   intro x;rw[Bool.eq_iff_iff];simp only[bB,Bool.not_eq_true',decide_eq_false_iff_not,dd,UInt8.lt_iff_toNat_lt,<-UInt8.toNat_inj];show (¬x.toNat<47/\x.toNat<48)↔x.toNat=47;omega
  rw[ad];congr 1;simp
 |d::q,[]=>by
  show (!Op.bytesLess [] (d::(q++[47]))&&_)=bI [] (d::(q++[47]));unfold bI;simp[Op.bytesLess]
 |d::q,x::k=>by
  have aO:=aaC q k;show (!(decide (x<d)||(x==d&&Op.bytesLess k (q++[47])))&&(decide (x<d)||(x==d&&Op.bytesLess k (q++[48]))))=bI (x::k) (d::(q++[47]));have ag:bI (x::k) (d::(q++[47]))=(decide (x=d)&&bI k (q++[47])):=by
   unfold bI;simp only[List.length_cons,List.take_succ_cons,List.cons.injEq,Nat.add_le_add_iff_right,Bool.decide_and];cases decide ((q++[47]).length<=k.length)<;>simp
  rw[ag,<-aO];by_cases aa:x=d
  ·subst aa;simp
  ·have al:(x==d)=false:=by simpa using aa
   simp only[al,Bool.false_and,Bool.or_false,bg aa];cases decide (x<d)<;>rfl
theorem jr: ∀p∈six,kT (p,())=some (c2 p,())/\mb (p,())=some (c2 p,())/\(p=[]\/p=p.dropLast++[47]):=by
 have h:six.all (fun p=>decide (kT (p,())=some (c2 p,()))&&(decide (mb (p,())=some (c2 p,()))&&(decide (p=[])||decide (p=p.dropLast++[47]))))=true:=by kernel_rfl
 intro p aP;have ad:=List.all_eq_true.1 h p aP;simp only[bB,Bool.or_eq_true,dd]at ad;exact ad
theorem uK {p:af} (h:p=[]\/p=p.dropLast++[47]) (k:af):bX (c2 p) k=bI k p:=by
 unfold bX c2;by_cases aP:p=[]
 ·subst aP;cases k<;>simp[bI,Op.bytesLess]
 ·have h:=h.resolve_left aP;have:=aaC p.dropLast k;rw[<-h]at this;rw[if_neg aP,<-this];have aQ: ¬(p.dropLast++[48]=[]):=by simp
  simp only[bg aQ,Bool.false_or]
theorem Mm {p:af} (h:p=[]\/p=p.dropLast++[47]):mV (c2 p):=by
 unfold mV c2;by_cases aP:p=[]
 ·left;simp[aP]
 ·right;have h:=h.resolve_left aP;simp only[if_neg aP];have: ∀q:af,Op.bytesLess (q++[47]) (q++[48])=true:=by
   intro q
   induction q with
   |nil=>decide
   |cons a q aO=>simp[Op.bytesLess,aO]
  conv=>lhs;arg 1;rw[h]
  exact this _
def iX:List af:=[[97,47],[98,47],[97,47,98,47],[99,47]].flatMap fun p=>[[1],[2,0,0],[2,0,1],[2,0,2],[3,120]].map fun s=>p++s
theorem ZJ (n:Int) (h:0<=n/\n<256): ∃k∈iX,xy (n,())=some (k,()):=by
 obtain ⟨k,rfl⟩:=Int.eq_ofNat_of_zero_le h.1;have av:k<256:=by omega
 have aB:(List.range 256).all (fun k=>match xy ((k:Int),()) with |some (p,())=>iX.contains p |none=>false)=true:=by kernel_rfl
 have:=List.all_eq_true.1 aB k (List.mem_range.2 av);cases aP:xy ((k:Int),()) with
 |none=>rw[aP]at this;cases this
 |some r=>
  obtain ⟨p,u⟩:=r;rw[aP]at this;exact ⟨p,by simpa using this,rfl⟩
theorem aoQ (n:Int) (h:0<=n/\n<256): ∃v:af,v.length<=10/\rg (n,())=some (v,()):=by
 obtain ⟨k,rfl⟩:=Int.eq_ofNat_of_zero_le h.1;have av:k<256:=by omega
 have aB:(List.range 256).all (fun k=>match rg ((k:Int),()) with |some (p,())=>decide (p.length<=10)|none=>false)=true:=by kernel_rfl
 have:=List.all_eq_true.1 aB k (List.mem_range.2 av);cases aP:rg ((k:Int),()) with
 |none=>rw[aP]at this;cases this
 |some r=>
  obtain ⟨p,u⟩:=r;rw[aP]at this;exact ⟨p,by simpa using this,rfl⟩
def eD:List af:=[[97,47],[98,47],[97,47,98,47],[99,47],[100,47]]
theorem YV (n:Int) (h:0<=n/\n<256): ∃p∈eD,oo (n,())=some (p,()):=by
 obtain ⟨k,rfl⟩:=Int.eq_ofNat_of_zero_le h.1;have av:k<256:=by omega
 have aB:(List.range 256).all (fun k=>match oo ((k:Int),()) with |some (p,())=>eD.contains p |none=>false)=true:=by kernel_rfl
 have:=List.all_eq_true.1 aB k (List.mem_range.2 av);cases aP:oo ((k:Int),()) with
 |none=>rw[aP]at this;cases this
 |some r=>
  obtain ⟨p,u⟩:=r;rw[aP]at this;exact ⟨p,by simpa using this,rfl⟩
theorem iR: ∀p∈eD,p∈six:=by
 intro p aP;simp only[eD,six,List.mem_cons,List.mem_nil_iff,or_false]at aP ⊢;rcases aP with h |h |h |h |h<;>simp[h]
def my (a b:af):af:=bif bI a b||bI b a then (bif decide (a=[100,47]) then [99,47] else [100,47]) else b
theorem aho: ∀a∈eD,∀b∈eD,my a b∈eD/\bI a (my a b)=false/\bI (my a b) a=false:=by
 have h:eD.all (fun a=>eD.all fun b=>eD.contains (my a b)&&(!bI a (my a b)&& !bI (my a b) a))=true:=by kernel_rfl
 intro a aR b ag;have:=List.all_eq_true.1 (List.all_eq_true.1 h a aR) b ag;simpa using this
abbrev mn:Type:=(Int)×(Int)×(Int)×(Int)×(Int)×(Int)×Unit
def kj (a:Int) (k v f t:af) (s:ah) (n:Int):a6:=
 bif decide (a=0) then (1,k,v,([],[],()),[],[],n,())
 else bif decide (a=1) then (2,k,[],([],[],()),[],[],0,())
 else bif decide (a=2) then (3,[],[],s,[],[],0,())
 else bif decide (a=3) then (4,[],[],([],[],()),f,t,0,())
 else bif decide (a=4) then (5,[],[],([],[],()),f,t,0,())
 else (6,[],[],s,[],[],n,())
theorem agP (k f t v:af) (x:mn) (s:ah) (aX:rg (x.2.2.1,())=some (v,())):
  pA (k,f,t,x,(0:Int),[],[],[],[],[],[],(0:Int),s,())=some (.inl (kj (Int.tmod x.1 6) k v f t s (i64.wrap (Int.tmod x.2.2.2.2.2.1 8)))):=by
 unfold pA kj;simp only[aX];cases decide (Int.tmod x.1 6=0)<;>cases decide (Int.tmod x.1 6=1)<;>cases decide (Int.tmod x.1 6=2)<;>cases decide (Int.tmod x.1 6=3)<;>cases decide (Int.tmod x.1 6=4)<;>rfl
theorem agO (k f t v:af) (x:mn) (s:ah) (aX:rg (x.2.2.1,())=some (v,())) (aK:oo (x.2.1,())=some (f,())) (aU:oo (x.2.2.2.1,())=some (t,())):
  lR (k,x,(0:Int),[],[],[],[],[],[],(0:Int),s,())=some (.inl (kj (Int.tmod x.1 6) k v f (my f t) s (i64.wrap (Int.tmod x.2.2.2.2.2.1 8)))):=by
 unfold lR qN my;simp only[aK,aU,DB];cases bI f t<;>cases bI t f<;>cases decide (f=[100,47])<;>simp only[du,dm,az,aM,Bool.or_true,Bool.or_false,Bool.true_or,Bool.false_or,agP k _ _ v x s aX]
structure fM (m:a6):Prop where
 kind:m.1=1\/m.1=2\/m.1=3\/m.1=4\/m.1=5\/m.1=6
 key:m.1=1\/m.1=2->m.2.1∈iX
 val:m.1=1->m.2.2.1.length<=10
 span:m.1=3\/m.1=6->mV m.2.2.2.1
 from_:m.1=4\/m.1=5->m.2.2.2.2.1∈eD
 to_:m.1=4\/m.1=5->m.2.2.2.2.2.1∈eD
 apart:m.1=4\/m.1=5->bI m.2.2.2.2.1 m.2.2.2.2.2.1=false/\bI m.2.2.2.2.2.1 m.2.2.2.2.1=false
theorem aoU (a:Int) (k v f t:af) (s:ah) (n:Int) (av:k∈iX) (aX:v.length<=10) (aK:f∈eD) (aU:t∈eD) (ar:mV s) (aa:bI f t=false) (ad:bI t f=false):fM (kj a k v f t s n):=by
 unfold kj;cases decide (a=0) with
 |true=>exact ⟨by simp,fun _=>av,fun _=>aX,(by simp),(by simp),(by simp),(by simp)⟩
 |false=>
  cases decide (a=1) with
  |true=>exact ⟨by simp,fun _=>av,(by simp),(by simp),(by simp),(by simp),(by simp)⟩
  |false=>
   cases decide (a=2) with
   |true=>exact ⟨by simp,(by simp),(by simp),fun _=>ar,(by simp),(by simp),(by simp)⟩
   |false=>
    cases decide (a=3) with
    |true=>exact ⟨by simp,(by simp),(by simp),(by simp),fun _=>aK,fun _=>aU,fun _=>⟨aa,ad⟩⟩
    |false=>
     cases decide (a=4) with
     |true=>exact ⟨by simp,(by simp),(by simp),(by simp),fun _=>aK,fun _=>aU,fun _=>⟨aa,ad⟩⟩
     |false=>exact ⟨by simp,(by simp),(by simp),fun _=>ar,(by simp),(by simp),(by simp)⟩
def wY (x:mn):Prop:=(0<=x.1/\x.1<256)/\(0<=x.2.1/\x.2.1<256)/\(0<=x.2.2.1/\x.2.2.1<256)/\(0<=x.2.2.2.1/\x.2.2.2.1<256)
theorem R2 (k:af):Op.bytesLess k (k++[0])=true:=by
 induction k with
 |nil=>rfl
 |cons a k aO=>simp[Op.bytesLess,aO]
theorem ao7: ∀k∈iX,oJ k:=by
 have h:iX.all (fun k=>(tJ (k,())).isSome)=true:=by kernel_rfl
 exact fun k av=>List.all_eq_true.1 h k av
theorem aob: ∀a∈eD,∀b∈eD,(Bb (a,b,())).isSome=true:=by
 have h:eD.all (fun a=>eD.all fun b=>(Bb (a,b,())).isSome)=true:=by kernel_rfl
 exact fun a aR b ag=>List.all_eq_true.1 (List.all_eq_true.1 h a aR) b ag
theorem fM.mok {m:a6} (h:fM m):HD m:=
 ⟨by have:=h.kind;omega,fun av=>ao7 _ (h.key av),fun av=>aob _ (h.from_ av) _ (h.to_ av)⟩
theorem ZL (a b:af): ∃r,tT (a,b,())=some (r,()):=by
 simp only[tT];cases (!decide (a=([]:af)))
 ·exact ⟨_,rfl⟩
 ·cases (!decide (b=([]:af)))<;>exact ⟨_,rfl⟩
theorem Le (s:ah): ∃r,rp (s,())=some (r,()):=by
 simp only[rp];cases (!decide (s.2.1=([]:af)))<;>exact ⟨_,rfl⟩
theorem anX (a b c d:af): ∃r,He (a,b,c,d,())=some (r,()):=by
 obtain ⟨e,he⟩:=Le (c,d,());simp only[He,he,KP];cases e<;>exact ⟨_,rfl⟩
theorem ZO (a b:ah): ∃r,x5 (a,b,())=some (r,()):=by
 obtain ⟨l,ao⟩:=ZL b.2.1 a.2.1;simp only[x5,ao];cases l<;>simp only[az,aM]<;>exact anX _ _ _ _
theorem YS (a b:ah): ∃r,oi (a,b,())=some (r,()):=by
 obtain ⟨e,he⟩:=Le b;obtain ⟨f,aK⟩:=Le a;obtain ⟨l,ao⟩:=ZL a.2.1 b.2.1;simp only[oi,he,aK,ao];cases e<;>cases f<;>cases (Op.bytesLess a.1 b.1||decide ((a.1:af)=b.1))<;>exact ⟨_,rfl⟩
theorem apC (s:ah) (ps:List af) (ao:ps.length<=100000): ∃l,xf (s,ps,())=some (l,())/\l.length=ps.length+1:=by
 obtain ⟨z,aa,q,rfl,aN⟩:=dY (b:=A7) (fun i (q:af×List ah)=>(ps,q.1,(i:Int),s,q.2,())) ps.length (fun i q=>q.2.length=i) (fun z=> ∃q:af×List ah,z=.inl (q.1,s,q.2,())/\q.2.length=ps.length) (by omega)
  (fun i ab q aN=>by
   left;have ai:=gA (i:=i) (l:=ps) (by omega);have aq:=ff i;have bc:=fL i (by omega);obtain ⟨r,aA⟩:=ZO s (q.1,(ps[i],()));have dh: ∀x:ah,(decide ((List.length q.2+List.length ([x]:List (ah)))*32<=bm))=true:=fun x=>am (by rw[aN,dV];simp;omega)
   exact ⟨(ps[i],q.2++[r]),by simp[aN],by simp only[A7,ai,aq,az,b7,bQ,cq ab,aA,dh,bc]⟩)
  (fun q aN=>by
   have ai:=hk ps;exact ⟨_,⟨q,rfl,aN⟩,by simp only[A7,ai,aM]⟩) (([]:af),([]:List ah)) rfl
 have db:Ip (ps,[],0,s,[],())=some (.inl (q.1,s,q.2,())):=aa;obtain ⟨r,aA⟩:=ZO s (q.1,(([]:af),()));have dh: ∀x:ah,(decide ((List.length q.2+List.length ([x]:List (ah)))*32<=bm))=true:=fun x=>am (by rw[aN,dV];simp;omega)
 exact ⟨q.2++[r],by simp only[xf,db,aA,dh,az],by simp[aN]⟩
theorem x4 {p:af} (h:p∈eD): ∃r,mb (p,())=some (r,()):=⟨_,(jr p (iR p h)).2.1⟩
theorem aaA {k:af} (h:k∈iX): ∃r,mR (k,())=some (r,()):=by
 have hlen:iX.all (fun k=>decide (k.length<100))=true:=by kernel_rfl
 have:=of_decide_eq_true (List.all_eq_true.1 hlen k h);have:k.length+([0]:af).length<=bm:=by rw[dV];simp;omega
 simp only[mR,this,am,az];exact ⟨_,rfl⟩
theorem apG {m:a6} (h:fM m): ∃l,mP (m,())=some (l,())/\l.length<=2:=by
 simp only[mP,pB];by_cases aE:m.1=4
 ·obtain ⟨r,aA⟩:=x4 (h.from_ (.inl aE));simp only[am aE,az,aA];exact ⟨_,rfl,by simp⟩
 ·by_cases aZ:m.1=5
  ·obtain ⟨r,aA⟩:=x4 (h.from_ (.inr aZ));simp only[bg aE,am aZ,az,aM,aA];exact ⟨_,rfl,by simp⟩
  ·simp only[bg aE,bg aZ,aM];cases decide (m.1=6)<;>exact ⟨_,rfl,by simp⟩
theorem aoS {m:a6} (h:fM m): ∃l,h2 (m,())=some (l,())/\l.length<=2:=by
 simp only[h2,jH];by_cases aa:m.1=1
 ·obtain ⟨r,aA⟩:=aaA (h.key (.inl aa));simp only[am aa,az,aA];exact ⟨_,rfl,by simp⟩
 ·by_cases ad:m.1=2
  ·obtain ⟨r,aA⟩:=aaA (h.key (.inr ad));simp only[bg aa,am ad,az,aM,aA];exact ⟨_,rfl,by simp⟩
  ·by_cases aE:m.1=4
   ·obtain ⟨r,aA⟩:=x4 (h.from_ (.inl aE));obtain ⟨t,aU⟩:=x4 (h.to_ (.inl aE));simp only[bg aa,bg ad,am aE,az,aM,aA,aU];exact ⟨_,rfl,by simp⟩
   ·by_cases aZ:m.1=5
    ·obtain ⟨t,aU⟩:=x4 (h.to_ (.inr aZ));simp only[bg aa,bg ad,bg aE,am aZ,az,aM,aU];exact ⟨_,rfl,by simp⟩
    ·simp only[bg aa,bg ad,bg aE,bg aZ,aM];exact ⟨_,rfl,by simp⟩
theorem anV (s:ah) (l:List ah) (ao:l.length<=1000): ∃r,Hh (0,s,l,())=some r:=by
 obtain ⟨z,aa,-⟩:=dY (b:=re) (fun i (_:Unit)=>((i:Int),s,l,())) l.length (fun _ _=>True) (fun _=>True) (by omega)
  (fun i ab _ _=>by
   have ai:=gA (i:=i) (l:=l) (by omega);have aq:=ff i;have bc:=fL i (by omega);obtain ⟨r,aA⟩:=YS s l[i];simp only[re,ai,aq,az,b7,bQ,cq ab,aA,bc];cases r
   ·exact .inr ⟨_,trivial,rfl⟩
   ·exact .inl ⟨(),trivial,rfl⟩)
  (fun _ _=>by
   have ai:=hk l;exact ⟨_,trivial,by simp only[re,ai,aM];rfl⟩) () trivial
 exact ⟨z,aa⟩
theorem aqf {m:a6} (h:fM m) (s:ah): ∃r,kk (m,s,())=some (r,()):=by
 obtain ⟨a,aR,aro⟩:=apG h;obtain ⟨b,ag,dB⟩:=aoS h;obtain ⟨z,bA⟩:=anV s (([]++a)++b) (by simp;omega);have ai:(decide ((List.length ([]:List (ah))+List.length a)*32<=bm))=true:=am (by rw[dV];simp;omega);have aq:(decide ((List.length (([]:List (ah))++a)+List.length b)*32<=bm))=true:=am (by rw[dV];simp;omega);simp only[kk,aR,ag,ai,aq,az,bA];cases z<;>exact ⟨_,rfl⟩
abbrev p6:Type:=((bO)×(List (ak))×(ah)×(List (List af))×(eh)×Unit)->Option ((dS)×Unit)
def nO (ns:List bs):Nat->Nat->Prop
 |0,_=>False
 |h+1,i=> ∃n,ns[i]? =some n/\
   ((h=0/\n.2.2.1=[]/\n.1.length<=1000/\ ∀p∈n.1,oJ p.1)\/
    (0<h/\ ∃ks:List Nat,n.2.2.1=dL ks/\ks.length=n.2.1.length+1/\n.2.1.length<=100/\n.2.2.2.1.length<=1000/\n.2.2.2.2.1.length<=5/\(∀m∈n.2.2.2.2.1,fM m)/\ ∀k∈ks,nO ns h k))
theorem nO.app {ns:List bs} (l:List bs): ∀{h i:Nat},nO ns h i->nO (ns++l) h i
 |0,_,h=>h.elim
 |h+1,i,⟨n,aQ,bC⟩=>by
  refine ⟨n,?_,bC.imp id fun ⟨bY,ks,a,b,c,d,e,f,g⟩=>⟨bY,ks,a,b,c,d,e,f,fun k av=>nO.app l (g k av)⟩⟩;rw[List.getElem?_append_left (List.getElem?_eq_some_iff.1 aQ).1];exact aQ
theorem nO.lt {ns:List bs} {h i:Nat} (t:nO ns h i):i<ns.length:=by
 cases h with
 |zero=>exact t.elim
 |succ h=>
  obtain ⟨n,aQ,-⟩:=t;exact (List.getElem?_eq_some_iff.1 aQ).1
theorem nO.sum {ns:List bs} {h i:Nat} (t:nO ns h i) (n:bs) (aQ:ns[i]? =some n): ∃s,pV (n,())=some s:=by
 cases h with
 |zero=>exact t.elim
 |succ h=>
  obtain ⟨m,hm,bC⟩:=t;obtain rfl:=Option.some.inj (hm.symm.trans aQ);rcases bC with ⟨-,bY,aa,ad⟩|⟨-,ks,a,b,c,d,e,f,g⟩
  ·exact af1 bY ad (by omega)
  ·refine aqp ?_ (by omega) (fun m hm=>(f m hm).mok) (by omega);intro h;rw[a]at h;have:=congrArg List.length h;rw[iQ,List.length_nil]at this;omega
structure Hz where
 l:List bs
 ks:List Nat
 sums:List dX
theorem aqA (r:p6) (N:List bs) (ks:List Nat) (bb: ∀k∈ks,k<N.length) (aQ:ks.Nodup) (ao:N.length<=1000) (jQ:ks.length<=1000) (a:og) (piv:List af) (sums:List dX) (buf:List a6):
  G1 r (0,[],0,[],a,(mk N (fun j=>if j∈ks then 2 else 1),()),piv,dL ks,sums,buf,())=some (.inl ([],0,a,(mk N (fun _=>1),()),())):=by
 obtain ⟨z,aa,ad⟩:=dY (b:=wM r) (fun i (p:List cY)=>((i:Int),[],0,[],a,(p,()),piv,dL ks,sums,buf,())) ks.length (fun i p=>p=mk N (fun j=>if j∈ks.drop i then 2 else 1)) (fun z=>z=.inl ([],0,a,(mk N (fun _=>1),()),())) (by omega)
  (fun i ab p aP=>by
   left;subst aP;refine ⟨_,rfl,?_⟩;have lq:ks[i]<N.length:=bb _ (List.getElem_mem ab);have ai:(decide (((i:Nat):Int)<((List.length (dL ks)):Int)))=true:=am (by rw[iQ];omega);have aq:=ff i;have bc:=fL i (by omega);have ax:ks.drop i=ks[i]::ks.drop (i+1):=List.drop_eq_getElem_cons ab;have dT:(ks[i]::ks.drop (i+1)).Nodup:=by rw[<-ax];exact aQ.sublist (List.drop_sublist _ _)
   have po:=(List.nodup_cons.1 dT).1;have bz:=agl (ns:=N) (r:=fun j=>if j∈ks.drop i then 2 else 1) lq (if_pos (by rw[ax];exact List.mem_cons_self)) ao;have dh:mk N (fun j=>if j=ks[i] then 1 else if j∈ks.drop i then 2 else 1)=mk N (fun j=>if j∈ks.drop (i+1) then 2 else 1):=yw fun j _=>by
    by_cases ay:j=ks[i]
    ·rw[if_pos ay,if_neg (by rw[ay];exact po)]
    ·rw[if_neg ay];have:j∈ks.drop i↔j∈ks.drop (i+1):=by rw[ax,List.mem_cons];exact ⟨fun h=>h.resolve_left ay,.inr⟩
     by_cases ad:j∈ks.drop i
     ·rw[if_pos ad,if_pos (this.1 ad)]
     ·rw[if_neg ad,if_neg (fun h=>ad (this.2 h))]
   rw[dh]at bz;simp only[wM,ai,aq,az,b7,bQ,tQ ab,bz,bc])
  (fun p aP=>by
   subst aP;have ai:(decide (((ks.length:Nat):Int)<((List.length (dL ks)):Int)))=false:=bg (by rw[iQ];omega);have dh:mk N (fun j=>if j∈ks.drop ks.length then 2 else 1)=mk N (fun _=>1):=yw fun j _=>by rw[List.drop_length];simp
   exact ⟨_,rfl,by simp only[wM,ai,aM,dh]⟩) (mk N (fun j=>if j∈ks then 2 else 1)) (by simp)
 subst ad;exact aa
theorem aqz (r:p6) (N:List bs) (ks:List Nat) (bb: ∀k∈ks,k<N.length) (aQ:ks.Nodup) (ao:N.length<=899) (jQ:ks.length<=1000) (piv:List af) (sums:List dX) (buf:List a6):
  mt r ((mk N (fun _=>1),()),[],0,[],piv,dL ks,sums,buf,())=some (((mk (N++[([],piv,dL ks,sums,buf,())]) (fun _=>1),()),((N.length:Nat):Int),()),()):=by
 have ai:=aaU (ns:=N) (n:=([],piv,dL ks,sums,buf,())) (ks:=ks) rfl bb aQ jQ (by omega);have aq:=aqA r (N++[([],piv,dL ks,sums,buf,())]) ks (fun k av=>by have:=bb k av;simp;omega) aQ (by simp;omega) jQ ((mk (N++[([],piv,dL ks,sums,buf,())]) (fun j=>if j∈ks then 2 else 1),()),((N.length:Int),(0,()))) piv sums buf;simp only[mt,ai,aq]
structure afY (x:eh):Prop where
 b0:(∀y∈x.2.1.1,wY y)/\x.2.1.1.length<1000000000000000000
 b1:(∀y∈x.2.1.2.1,wY y)/\x.2.1.2.1.length<1000000000000000000
 b2:(∀y∈x.2.1.2.2.1,wY y)/\x.2.1.2.2.1.length<1000000000000000000
 b3:(∀y∈x.2.1.2.2.2.1,wY y)/\x.2.1.2.2.2.1.length<1000000000000000000
structure ux (t:List ak):Prop where
 len:t.length<=1000
 key: ∀p∈t,oJ p.1
theorem L2 (p q:ak): ∀t:List ak,q∈ins p t->q=p\/q∈t
 |[],h=>by simp[ins]at h;exact .inl h
 |x::t,h=>by
  unfold ins at h;cases ag:Op.bytesLess x.1 p.1
  ·rw[ag,aM]at h;rcases List.mem_cons.1 h with h |h
   ·exact .inl h
   ·exact .inr (List.mem_filter.1 h).1
  ·rw[ag,az]at h;rcases List.mem_cons.1 h with h |h
   ·exact .inr (by rw[h];exact List.mem_cons_self)
   ·exact (L2 p q t h).imp id (List.mem_cons_of_mem _)
theorem Zr (l:List fc) (q:ak) (h:q∈mx l): ∃y∈l,q=m5 y:=by
 have key: ∀(l:List fc) (t:List ak),q∈l.foldl (fun t x=>ins (m5 x) t) t->q∈t\/ ∃y∈l,q=m5 y:=by
  intro l
  induction l with
  |nil=>intro t h;exact .inl h
  |cons x l aO=>
   intro t h;rcases aO _ h with h |⟨y,bf,e⟩
   ·rcases L2 _ _ _ h with h |h
    ·exact .inr ⟨x,List.mem_cons_self,h⟩
    ·exact .inl h
   ·exact .inr ⟨y,List.mem_cons_of_mem _ bf,e⟩
 rcases key l [] h with h |h
 ·simp at h
 ·exact h
theorem ahj (n:Int) (bY:0<=n) (aa:n<256):oJ (qw n):=by
 obtain ⟨m,rfl⟩:=Int.eq_ofNat_of_zero_le bY;have aB:(List.range 256).all (fun k=>(tJ (qw ((k:Nat):Int),())).isSome)=true:=by kernel_rfl
 exact List.all_eq_true.1 aB m (List.mem_range.2 (by omega))
theorem ahx (l:List fc) (h: ∀x∈l,tM x):ux (mx (l.take 40)):=by
 refine ⟨?_,fun p aP=> ?_⟩
 ·have:=Lh (l.take 40);simp only[List.length_take]at this;omega
 ·obtain ⟨y,bf,rfl⟩:=Zr _ _ aP;have:=(h y (List.mem_of_mem_take bf)).1;exact ahj y.1 this.1 this.2
def cap:Nat->Nat
 |0=>1
 |d+1=>1+6*cap d
structure avX (x:eh):Prop where
 xok:afY x
 t:(∀y∈x.1,tM y)/\x.1.length<1000000000000000000
 w:0<=x.2.2.1/\x.2.2.1<256
def lI:List (List (List af)):=[[],[[[97,47,98,47],[98,47],[99,47]]],[[[98,47]],[[97,47,2],[97,47,98,47],[99,47]]],[[[97,47,98,47],[98,47]],[[97,47,98,47,2],[99,47],[100,47]]]]
def w3 (w:Int):fc:=(i64.wrap (2+i64.wrap (Int.tmod (IntKind.u8.wrap (Int.tdiv w 4)) 4)),(i64.wrap (2+i64.wrap (Int.tmod (IntKind.u8.wrap (Int.tdiv w 16)) 3)),(i64.wrap (1+i64.wrap (IntKind.u8.wrap (Int.tdiv w 64))),())))
theorem aqh (x:eh):C7 (x,())=match x7 (x.1,()) with
  |none=>none
  |some aj=>bif (decide ((0:Int)<=i64.wrap (Int.tmod x.2.2.1 4))&&decide (i64.wrap (Int.tmod x.2.2.1 4)<(List.length lI:Int))) then
    match CZ ((([]:List (cY)),()),aj.1,(([]:af),(([]:af),())),List.getD lI (Int.toNat (i64.wrap (Int.tmod x.2.2.1 4))) [],x,()) with
    |none=>none
    |some bF=>some ((bF.1.1,(bF.1.2.1,(w3 x.2.2.1,()))),())
   else none:=rfl
theorem RZ {I J:Nat} (h:I+J<4611686018427387904):Int.fdiv (IntKind.u64.wrap (i64.wrap ((I:Int)+(J:Int)))) (2^(min (Int.toNat (1:Int)) IntKind.u64.bits))=(((I+J)/2:Nat):Int):=by
 have ai:i64.wrap ((I:Int)+(J:Int))=((I+J:Nat):Int):=by rw[cU (by omega)];omega
 have aq:IntKind.u64.wrap ((I+J:Nat):Int)=((I+J:Nat):Int):=by
  show ((I+J:Nat):Int)%2^64=_;omega
 rw[ai,aq];have bc:(2:Int)^(min (Int.toNat (1:Int)) IntKind.u64.bits)=2:=by decide
 rw[bc,Int.fdiv_eq_ediv_of_nonneg _ (by omega)];omega
theorem aqd (a b:af):GQ (a,b,())=some (Op.bytesLess a b,()):=by
 simp[GQ,tn]
abbrev ub:Type:=(Bool)×(Bool)×af×af×(Int)×af×(Bool)×(Int)×Unit
abbrev HG:Type:=(Bool)×(Bool)×af×af×(Int)×af×(Bool)×(Int)×(Bool)×(Bool)×af×af×(Int)×af×(Bool)×(Int)×Unit
theorem apD: ∀p∈eD,p.length<=4:=by decide
def la (x y:af):Int:=if Op.bytesLess x y=true then-1 else if x=y then 0 else 1
theorem agi {x y:af}:(la x y=0)↔x=y:=by
 unfold la;split
 ·rename_i h;have:=js h;simp[this]
 ·split<;>simp[*]
theorem ZW: ∀(a b:af),Lib.compareBytes a b=la a b
 |[],[]=>rfl
 |[],_::_=>rfl
 |_::_,[]=>rfl
 |a::x,b::y=>by
  have aO:=ZW x y;rw[Lib.compareBytes];unfold la at aO ⊢;simp only[Op.bytesLess];by_cases aa:a<b
  ·simp[aa]
  ·by_cases ad:b<a
   ·have al:a≠b:=by rintro rfl;exact aa ad
    simp[aa,ad,al]
   ·have al:a=b:=UInt8.le_antisymm (UInt8.not_lt.1 ad) (UInt8.not_lt.1 aa);subst al;rw[if_neg aa,if_neg aa,aO];simp
theorem YY (p:ak) (k:af):Bj (p,k,())=some (la p.1 k,()):=by
 unfold Bj Qg OW;simp only[ZW]
theorem oH (n:bs):rQ (n,())=some (decide ((((List.length n.2.2.1):Int):Int)=(0:Int)),()):=rfl
theorem Dm (x:mn) (h:wY x): ∃k v f t s,rF (x,())=some (kj (Int.tmod x.1 6) k v f (my f t) s (i64.wrap (Int.tmod x.2.2.2.2.2.1 8)),())/\fM (kj (Int.tmod x.1 6) k v f (my f t) s (i64.wrap (Int.tmod x.2.2.2.2.2.1 8)))/\f∈eD/\t∈eD/\s.1.length<=200/\s.2.1.length<=200:=by
 obtain ⟨aa,ad,al,aE⟩:=h;obtain ⟨k,av,aqV⟩:=ZJ _ ad;obtain ⟨l,ao,el⟩:=ZJ _ aE;obtain ⟨v,aX,ev⟩:=aoQ _ al;obtain ⟨f,aK,aa8⟩:=YV _ ad;obtain ⟨t,aU,mB⟩:=YV _ aE;obtain ⟨t1,t2,t3⟩:=aho f aK t aU;obtain ⟨_,aqW,aqX⟩:=jr f (iR f aK);have ai:mR (k,())=some ((k,k++[0],()),()):=by
  unfold mR;have hlen:iX.all (fun k=>decide (k.length<100))=true:=by kernel_rfl
  have:=of_decide_eq_true (List.all_eq_true.1 hlen k av);have:k.length+([0]:af).length<=bm:=by rw[dV];simp;omega
  simp only[this,am,az]
 have awp:k.length<100:=by
  have hlen:iX.all (fun k=>decide (k.length<100))=true:=by kernel_rfl
  exact of_decide_eq_true (List.all_eq_true.1 hlen k av)
 have aws:l.length<100:=by
  have hlen:iX.all (fun k=>decide (k.length<100))=true:=by kernel_rfl
  exact of_decide_eq_true (List.all_eq_true.1 hlen l ao)
 have arM:(c2 f).1.length<=200/\(c2 f).2.1.length<=200:=by
  have hlen:eD.all (fun p=>decide ((c2 p).1.length<=200)&&decide ((c2 p).2.1.length<=200))=true:=by kernel_rfl
  have:=List.all_eq_true.1 hlen f aK;simpa using this
 have fin: ∀s:ah,mV s->(s.1.length<=200/\s.2.1.length<=200)-> ∃k' j0 kB hd gg,(match lR (k,x,(0:Int),([]:af),([]:af),([]:af),([]:af),([]:af),([]:af),(0:Int),s,()) with
   |none=>none
   |some (.inl e3)=>some ((e3.1,(e3.2.1,(e3.2.2.1,(e3.2.2.2.1,(e3.2.2.2.2.1,(e3.2.2.2.2.2.1,(e3.2.2.2.2.2.2.1,()))))))),())
   |some (.inr e3)=>none)=some (kj (Int.tmod x.1 6) k' j0 kB (my kB hd) gg (i64.wrap (Int.tmod x.2.2.2.2.2.1 8)),())/\fM (kj (Int.tmod x.1 6) k' j0 kB (my kB hd) gg (i64.wrap (Int.tmod x.2.2.2.2.2.1 8)))/\kB∈eD/\hd∈eD/\gg.1.length<=200/\gg.2.1.length<=200:=by
  intro s ar Aq;refine ⟨k,v,f,t,s,?_,aoU _ _ _ _ _ _ _ av aX aK t1 ar t2 t3,aK,aU,Aq⟩;rw[agO k f t v x s ev aa8 mB]
 unfold rF;simp only[aqV,el,aa8,aqW,ai];cases decide (Int.tmod x.2.2.2.2.1 4=0) with
 |true=>exact fin _ (Mm aqX) arM
 |false=>
  simp only[aM];cases decide (Int.tmod x.2.2.2.2.1 16=1) with
  |true=>exact fin _ (.inl rfl) ⟨by (try simp only[List.length_append,List.length_nil,List.length_cons]);omega,by (try simp only[List.length_append,List.length_nil,List.length_cons]);omega⟩
  |false=>
   simp only[aM];cases decide (Int.tmod x.2.2.2.2.1 16=5) with
   |true=>exact fin _ (.inl rfl) ⟨by (try simp only[List.length_append,List.length_nil,List.length_cons]);omega,by (try simp only[List.length_append,List.length_nil,List.length_cons]);omega⟩
   |false=>
    simp only[aM];by_cases jQ:k=l
    ·simp only[am jQ,az];exact fin _ (.inr (R2 k)) ⟨by (try simp only[List.length_append,List.length_nil,List.length_cons]);omega,by (try simp only[List.length_append,List.length_nil,List.length_cons]);omega⟩
    ·simp only[bg jQ,aM];refine fin _ (Or.inr ?_) ?_
     rotate_left
     ·cases Op.bytesLess k l<;>simp<;>omega
     rcases hi k l with h |h |h
     ·simp only[h,Bool.true_or,az,du,aM]
     ·exact absurd h jQ
     ·simp only[hJ h,Bool.false_or,Bool.or_false,dm,az,aM];exact h
def ow (x:mn):Prop:=wY x/\(0<=x.2.2.2.2.1/\x.2.2.2.2.1<256)/\0<=x.2.2.2.2.2.1/\x.2.2.2.2.2.1<256
def gW (m:a6):Prop:= ∃x:mn,ow x/\rF (x,())=some (m,())
theorem gW.ok {m:a6} (h:gW m):fM m:=by
 obtain ⟨x,aw,e⟩:=h;obtain ⟨k,v,f,t,s,aq,ok,-,-⟩:=Dm x aw.1;have bc:=Option.some.inj (e.symm.trans aq);have bz:m=_:=congrArg Prod.fst bc;rw[bz];exact ok
theorem ahb (l:List mn) (h: ∀x∈l,ow x) (n:Nat) (aQ:n<=1000) (ao:l.length<1000000000000000000): ∃ms,C6 (l,(n:Int),())=some (ms,())/\ms.length<=n/\ ∀m∈ms,gW m:=by
 obtain ⟨z,aa,ms,rfl,ad,al⟩:=dY (b:=wR) (fun i (out:List a6)=>(l,(n:Int),(i:Int),out,())) (min l.length n) (fun i out=>out.length=i/\ ∀m∈out,gW m) (fun z=> ∃ms,z=.inl (ms,())/\ms.length<=n/\ ∀m∈ms,gW m) (by omega)
  (fun i ab out an=>by
   left;obtain ⟨vM,s6⟩:=an;have hL:i<l.length:=by omega
   obtain ⟨wE,e,ok⟩: ∃wE,rF (l[i],())=some (wE,())/\gW wE:=by
    obtain ⟨k,v,f,t,s,e,ok,-,-⟩:=Dm l[i] (h _ (List.getElem_mem hL)).1;exact ⟨_,e,l[i],h _ (List.getElem_mem hL),e⟩
   refine ⟨out++[wE],⟨by rw[List.length_append,vM];rfl,fun m hm=> ?_⟩,?_⟩
   rotate_left
   ·have ai:=gA (i:=i) (l:=l) (by omega);have aq:=ff i;have bc:=fL i (by omega);have bz:(decide (((i:Nat):Int)<(n:Int)))=true:=am (by omega);have dh: ∀x:a6,(decide ((List.length out+List.length ([x]:List (a6)))*112<=bm))=true:=fun x=>am (by rw[vM,dV];simp;omega)
    simp only[wR,AS,ai,aq,bz,az,b7,bQ,cq hL,e,dh,bc]
   ·rcases List.mem_append.1 hm with hm |hm
    ·exact s6 m hm
    ·rw[List.mem_singleton.1 hm];exact ok)
  (fun out an=>by
   obtain ⟨vM,s6⟩:=an;refine ⟨_,⟨out,rfl,by omega,s6⟩,?_⟩;rcases Nat.lt_or_ge (min l.length n) l.length with aa |aa
   ·have ai:(decide (((min l.length n:Nat):Int)<((List.length l):Int)))=true:=am (by omega);have bz:(decide (((min l.length n:Nat):Int)<(n:Int)))=false:=bg (by omega);simp only[wR,AS,ai,bz,az,aM]
   ·have ai:(decide (((min l.length n:Nat):Int)<((List.length l):Int)))=false:=bg (by omega);simp only[wR,AS,ai,aM]) [] ⟨rfl,by simp⟩
 have db:Jo (l,(n:Int),0,[],())=some (.inl (ms,())):=aa;exact ⟨ms,by simp only[C6,db],ad,al⟩
theorem Dh (l:List mn) (h: ∀x∈l,ow x) (s:ah) (ao:l.length<1000000000000000000): ∃ms,tA (l,s,(5:Int),())=some (ms,())/\ms.length<=5/\ ∀m∈ms,gW m/\kk (m,s,())=some (true,()):=by
 obtain ⟨all,aa,ad,al⟩:=ahb l h 15 (by omega) ao;obtain ⟨z,g1,ms,rfl,g2,g3⟩:=dY (b:=ts) (fun i (out:List a6)=>((5:Int),(i:Int),s,out,all,())) all.length (fun i out=>out.length<=5/\ ∀m∈out,gW m/\kk (m,s,())=some (true,())) (fun z=> ∃ms,z=.inl (ms,())/\ms.length<=5/\ ∀m∈ms,gW m/\kk (m,s,())=some (true,())) (by omega)
  (fun i ab out an=>by
   obtain ⟨vM,s6⟩:=an;have ai:=gA (i:=i) (l:=all) (by omega);have aq:=ff i;have bc:=fL i (by omega);by_cases aZ:out.length<5
   ·left;have bz:(decide ((((List.length out):Int):Int)<(5:Int)))=true:=am (by omega);obtain ⟨r,aA⟩:=aqf (al all[i] (List.getElem_mem ab)).ok s;have dh: ∀x:a6,(decide ((List.length out+List.length ([x]:List (a6)))*112<=bm))=true:=fun x=>am (by rw[dV];simp;omega)
    cases r with
    |false=>exact ⟨out,⟨vM,s6⟩,by simp only[ts,vZ,ai,aq,bz,az,aM,b7,bQ,cq ab,aA,bc]⟩
    |true=>
     refine ⟨out++[all[i]],⟨by simp;omega,fun m hm=> ?_⟩,by simp only[ts,vZ,ai,aq,bz,az,aM,b7,bQ,cq ab,aA,dh,bc]⟩;rcases List.mem_append.1 hm with hm |hm
     ·exact s6 m hm
     ·rw[List.mem_singleton.1 hm];exact ⟨al _ (List.getElem_mem ab),aA⟩
   ·right;have bz:(decide ((((List.length out):Int):Int)<(5:Int)))=false:=bg (by omega);exact ⟨_,⟨out,rfl,vM,s6⟩,by simp only[ts,vZ,ai,bz,az,aM]⟩)
  (fun out an=>by
   have ai:=hk all;exact ⟨_,⟨out,rfl,an.1,an.2⟩,by simp only[ts,vZ,ai,aM]⟩) [] ⟨by simp,by simp⟩
 have kD:P0 (5,0,s,[],all,())=some (.inl (ms,())):=g1;have c7:i64.wrap ((3:Int)*5)=((15:Nat):Int):=by rw[cU (by omega)];rfl
 exact ⟨ms,by simp only[tA,c7,aa,kD],g2,g3⟩
def cl (P:List af) (s:ah):List af:=P.filter fun k=>(!(Op.bytesLess k s.1||decide (k=s.1)))&&bX s k
def partsOf (s:ah) (m:List af):List ah:=((xf (s,m,())).map (·.1)).getD []
theorem yv (P:List af) (s:ah):(cl P s).length<=P.length:=List.length_filter_le _ _
theorem Z8 (s:ah) (m:List af) (ao:m.length<=100000):xf (s,m,())=some (partsOf s m,())/\(partsOf s m).length=m.length+1:=by
 obtain ⟨l,aa,ad⟩:=apC s m ao;have e:partsOf s m=l:=by unfold partsOf;rw[aa];rfl
 rw[e];exact ⟨aa,ad⟩
theorem ahM (n:bs) (s:ah) (bY:n.2.2.1≠[]) (ao:n.2.1.length<=100000):BU (n,s,())=some (partsOf s n.2.1,()):=by
 obtain ⟨aa,ad⟩:=Z8 s n.2.1 ao;have b6:(decide ((((List.length n.2.2.1):Int):Int)=(0:Int)))=false:=bg (by
  have:=List.length_pos_iff.2 bY;omega)
 simp only[BU,b6,aM,aa]
theorem apN (r:p6) (t:List ak) (pv:List (List af)) (p:bO) (s:ah) (x:eh) (bY:0<pv.length) (ao:(List.getD pv 0 []).length<=100):
  GZ r (t,pv,0,p,s,x,[],0,[],())=some (.inl (t,pv,p,s,x,[],0,cl (List.getD pv 0 []) s,())):=by
 obtain ⟨P,jk⟩: ∃P,List.getD pv 0 []=P:=⟨_,rfl⟩;rw[jk]at ao ⊢;obtain ⟨z,aa,rfl⟩:=dY (b:=wL r) (fun i (e2:List af)=>(t,pv,(i:Int),p,s,x,[],0,e2,())) P.length (fun i e2=>e2=cl (P.take i) s) (fun z=>z=.inl (t,pv,p,s,x,[],0,cl P s,())) (by omega)
  (fun i ab e2 hm=>by
   left;have b6:(decide (((0:Int):Int)<(List.length pv:Int)))=true:=am (by omega);have ai:=gA (i:=i) (l:=P) (by omega);have aq:=ff i;have bc:=fL i (by omega);have iU:e2.length<=i:=by
    rw[hm];have:=yv (P.take i) s;rw[List.length_take]at this;omega
   have dh: ∀k:af,(decide ((List.length e2+List.length ([k]:List af))*16<=bm))=true:=fun k=>am (by rw[dV];simp;omega)
   have ar:cl (P.take (i+1)) s=e2++cl [P[i]] s:=by
    rw[eV ab,hm];unfold cl;rw[List.filter_append]
   simp only[wL,PO,b6,ai,aq,jk,az,b7,bQ,cq ab,aaN,dh,bc];unfold cl at ar;simp only[List.filter_cons,List.filter_nil]at ar;cases ad:(!(Op.bytesLess P[i] s.1||decide ((P[i]:af)=s.1)))
   ·rw[ad]at ar;exact ⟨e2,by unfold cl;rw[ar];simp,by simp only[aM]⟩
   ·rw[ad]at ar;cases al:bX s P[i]
    ·rw[al]at ar;exact ⟨e2,by unfold cl;rw[ar];simp,by simp only[az,aM]⟩
    ·rw[al]at ar;exact ⟨e2++[P[i]],by unfold cl;rw[ar];simp,by simp only[az]⟩)
  (fun e2 hm=>by
   have b6:(decide (((0:Int):Int)<(List.length pv:Int)))=true:=am (by omega);have ai:=hk P;rw[List.take_length]at hm;subst hm;exact ⟨_,rfl,by simp only[wL,b6,ai,jk,az,aM]⟩) [] rfl
 exact aa
def oN (ns:List bs) (k:Nat) (s:dX):Prop:= ∃kid,ns[k]? =some kid/\pV (kid,())=some (s,())
abbrev cS:ah:=(([]:af),(([]:af),()))
abbrev w7:dX:=(((0:Int),((0:Int),())),(((0:Int),((0:Int),())),()))
def gz (ns:List bs) (t:List ak):List (List af)->ah->Nat->Prop
 |[],s,i=>ns[i]? =some (inS s t,[],[],[],[],())
 |P::pv,s,i=> ∃(ks:List Nat) (sums:List dX) (buf:List a6),
   ns[i]? =some ([],cl P s,dL ks,sums,buf,())/\ks.length=(cl P s).length+1/\sums.length=ks.length/\ks.Nodup/\(∀k∈ks,k<i)/\
   buf.length<=5/\(∀m∈buf,gW m/\kk (m,s,())=some (true,()))/\
   ∀j,j<ks.length->gz ns t pv (List.getD (partsOf s (cl P s)) j cS) (ks.getD j 0)/\oN ns (ks.getD j 0) (List.getD sums j w7)
theorem oN.app {ns:List bs} (l:List bs) {k:Nat} {s:dX} (h:oN ns k s):oN (ns++l) k s:=by
 obtain ⟨n,aa,ad⟩:=h;refine ⟨n,?_,ad⟩;rw[List.getElem?_append_left (List.getElem?_eq_some_iff.1 aa).1];exact aa
theorem gz.app {ns:List bs} {t:List ak} (l:List bs): ∀{pv:List (List af)} {s:ah} {i:Nat},gz ns t pv s i->gz (ns++l) t pv s i
 |[],s,i,h=>by
  show (ns++l)[i]? =_;rw[List.getElem?_append_left (List.getElem?_eq_some_iff.1 h).1];exact h
 |P::pv,s,i,⟨ks,sums,buf,aa,ad,al,aE,aZ,bu,dq,h4⟩=>by
  refine ⟨ks,sums,buf,?_,ad,al,aE,aZ,bu,dq,fun j ay=>⟨gz.app l (h4 j ay).1,(h4 j ay).2.app l⟩⟩;rw[List.getElem?_append_left (List.getElem?_eq_some_iff.1 aa).1];exact aa
theorem gz.ok {ns:List bs} {t:List ak} (aU:ux t): ∀{pv:List (List af)} {s:ah} {i:Nat},(∀q∈pv,q.length<=5)->gz ns t pv s i->nO ns (pv.length+1) i
 |[],s,i,aN,h=>⟨_,h,.inl ⟨rfl,rfl,by have:=ql s t;have:=aU.len;show (inS s t).length<=1000;omega,fun p aP=>aU.key p (List.mem_filter.1 aP).1⟩⟩
 |P::pv,s,i,aN,⟨ks,sums,buf,aa,ad,al,aE,aZ,bu,dq,h4⟩=>by
  have jk:=aN P List.mem_cons_self;have hm:=yv P s;refine ⟨_,aa,.inr ⟨by simp,ks,rfl,ad,by show (cl P s).length<=100;omega,by show sums.length<=1000;omega,bu,fun m hm=>(dq m hm).1.ok,fun k av=> ?_⟩⟩;obtain ⟨j,ay,rfl⟩:=List.mem_iff_getElem.1 av;have:=(h4 j ay).1;rw[cq ay]at this;exact gz.ok aU (fun q lv=>aN q (List.mem_cons_of_mem _ lv)) this
theorem gz.lt {ns:List bs} {t:List ak}: ∀{pv:List (List af)} {s:ah} {i:Nat},gz ns t pv s i->i<ns.length
 |[],s,i,h=>(List.getElem?_eq_some_iff.1 h).1
 |P::pv,s,i,⟨ks,sums,buf,aa,_⟩=>(List.getElem?_eq_some_iff.1 aa).1
theorem Yq {α:Type} {l:List α} {x d:α} {j:Nat} (h:j<l.length):List.getD (l++[x]) j d=List.getD l j d:=by
 simp[List.getD,List.getElem?_append_left h]
theorem Yp {α:Type} {l:List α} {x d:α} {j:Nat} (h:j=l.length):List.getD (l++[x]) j d=x:=by
 subst h;simp[List.getD]
def rL:List (List af)->ah->Nat
 |[],_=>1
 |P::pv,s=>1+((partsOf s (cl P s)).map (rL pv)).sum
def uX (n:bs):Prop:=n.1.length<=1000/\n.2.1.length<=1000/\n.2.2.1.length<=1000/\n.2.2.2.1.length<=1000/\n.2.2.2.2.1.length<=1000
def yB (r:p6) (t:List ak) (x:eh) (pv:List (List af)) (c:Nat):Prop:=
 ∀(ns:List bs) (s:ah),ns.length+c<=900->
  ∃l i,r ((mk ns (fun _=>1),()),t,s,pv,x,())=some (((mk (ns++l) (fun _=>1),()),((i:Nat):Int),()),())/\l.length<=c/\ns.length<=i/\gz (ns++l) t pv s i/\rL pv s<=l.length/\ ∀n∈l,uX n
theorem apO (r:p6) (t:List ak) (aU:ux t) (x:eh) (P:List af) (pv:List (List af)) (aN: ∀q∈pv,q.length<=5) (c:Nat) (aA:yB r t x pv c) (ns:List bs) (s:ah) (parts:List ah) (e2:List af) (aP:parts.length<=6) (aQ:ns.length+parts.length*c<=900) (awD:pv.length<=100):
  ∃q:Hz,G0 r (t,P::pv,0,(mk ns (fun _=>1),()),s,x,[],0,[],[],parts,e2,[],[],())=some (.inl ((mk (ns++q.l) (fun _=>1),()),s,x,[],0,[],[],e2,dL q.ks,q.sums,()))/\
   q.l.length<=parts.length*c/\q.ks.length=parts.length/\q.sums.length=parts.length/\q.ks.Nodup/\(∀k∈q.ks,k<(ns++q.l).length)/\(∀j,j<parts.length->gz (ns++q.l) t pv (List.getD parts j cS) (q.ks.getD j 0)/\oN (ns++q.l) (q.ks.getD j 0) (List.getD q.sums j w7))/\(parts.map (rL pv)).sum<=q.l.length/\ ∀n∈q.l,uX n:=by
 obtain ⟨z,aa,q,rfl,ad⟩:=dY (b:=tz r) (fun i (q:Hz)=>(t,P::pv,(i:Int),(mk (ns++q.l) (fun _=>1),()),s,x,[],0,[],[],parts,e2,dL q.ks,q.sums,())) parts.length
  (fun i q=>q.l.length<=i*c/\q.ks.length=i/\q.sums.length=i/\q.ks.Nodup/\(∀k∈q.ks,k<(ns++q.l).length)/\(∀j,j<i->gz (ns++q.l) t pv (List.getD parts j cS) (q.ks.getD j 0)/\oN (ns++q.l) (q.ks.getD j 0) (List.getD q.sums j w7))/\((parts.take i).map (rL pv)).sum<=q.l.length/\ ∀n∈q.l,uX n)
  (fun z=> ∃q:Hz,z=.inl ((mk (ns++q.l) (fun _=>1),()),s,x,[],0,[],[],e2,dL q.ks,q.sums,())/\q.l.length<=parts.length*c/\q.ks.length=parts.length/\q.sums.length=parts.length/\q.ks.Nodup/\(∀k∈q.ks,k<(ns++q.l).length)/\(∀j,j<parts.length->gz (ns++q.l) t pv (List.getD parts j cS) (q.ks.getD j 0)/\oN (ns++q.l) (q.ks.getD j 0) (List.getD q.sums j w7))/\(parts.map (rL pv)).sum<=q.l.length/\ ∀n∈q.l,uX n) (by omega)
  (fun i ab q vR=>by
   left;obtain ⟨eo,a2,a3,a4,a5,oP,x2,Im⟩:=vR;have hmul:i*c+c<=parts.length*c:=by
    have:(i+1)*c<=parts.length*c:=Nat.mul_le_mul_right c ab;rw[Nat.add_mul]at this;omega
   have ai:=gA (i:=i) (l:=parts) (by omega);have aq:=ff i;have bc:=fL i (by omega);have bz:(decide (((1:Int):Int)<=(List.length (P::pv):Int))&&decide (((List.length (P::pv):Int):Int)<=(List.length (P::pv):Int)))=true:=by
    rw[am (by simp;omega),am (Int.le_refl _)];rfl
   have dh:List.drop (Int.toNat (1:Int)) (List.take (List.length (P::pv)) (P::pv))=pv:=by
    rw[List.take_length];rfl
   obtain ⟨l,j,b1,b2,b3,gL,gX,jG⟩:=aA (ns++q.l) parts[i] (by simp;omega);have ay:=gL.lt;have c7:=KJ (r:=fun _=>1) ay;obtain ⟨GJ,gF⟩:=(gL.ok aU aN).sum _ (List.getElem?_eq_getElem ay);have iP:(decide ((List.length (dL q.ks)+List.length ([((j:Nat):Int)]:List (Int)))*8<=bm))=true:=am (by rw[iQ,dV];simp;omega);have ld: ∀y:dX,(decide ((List.length q.sums+List.length ([y]:List (dX)))*32<=bm))=true:=fun y=>am (by rw[dV];simp;omega)
   have o9:dL q.ks++[((j:Nat):Int)]=dL (q.ks++[j]):=by simp[dL]
   refine ⟨⟨q.l++l,q.ks++[j],q.sums++[GJ.1]⟩,⟨by simp only[List.length_append];rw[Nat.add_mul];omega,by simp[a2],by simp[a3],?_,?_,?_,?_,fun n aQ=>(List.mem_append.1 aQ).elim (Im n) (jG n)⟩,?_⟩
   ·rw[List.nodup_append];refine ⟨a4,by simp,?_⟩;intro a aR b ag;have:=a5 a aR;simp only[List.mem_singleton]at ag;omega
   ·intro k av;rw[<-List.append_assoc];rcases List.mem_append.1 av with av |av
    ·have:=a5 k av;rw[List.length_append];omega
    ·rw[List.mem_singleton.1 av];exact ay
   ·intro k av;rw[<-List.append_assoc];show gz _ t pv _ (List.getD (q.ks++[j]) k 0)/\oN _ (List.getD (q.ks++[j]) k 0) (List.getD (q.sums++[GJ.1]) k w7);rcases Nat.lt_or_ge k i with h |h
    ·rw[Yq (by omega),Yq (by omega)];exact ⟨(oP k h).1.app l,(oP k h).2.app l⟩
    ·have ar7:k=i:=by omega
     subst ar7;rw[Yp (by omega),Yp (by omega),cq ab];exact ⟨gL,_,List.getElem?_eq_getElem ay,gF⟩
   ·rw[eV ab,List.map_append,List.sum_append];simp only[List.map_cons,List.map_nil,List.sum_cons,List.sum_nil,List.length_append];omega
   ·have My:pV ((ns++q.l++l)[j],())=some (GJ.1,()):=gF;show tz r _=some (Sum.inl (t,P::pv,((i+1:Nat):Int),(mk (ns++(q.l++l)) (fun _=>1),()),s,x,[],0,[],[],parts,e2,dL (q.ks++[j]),q.sums++[GJ.1],()));rw[show ns++(q.l++l)=ns++q.l++l from (List.append_assoc _ _ _).symm];simp only[tz,ai,aq,bz,dh,az,b7,bQ,cq ab,b1,c7,iP,My,ld,bc,o9])
  (fun q vR=>by
   have ai:=hk parts;obtain ⟨eo,a2,a3,a4,a5,oP,x2,Im⟩:=vR;rw[List.take_length]at x2;exact ⟨_,⟨q,rfl,eo,a2,a3,a4,a5,oP,x2,Im⟩,by simp only[tz,ai,aM]⟩) ⟨[],[],[]⟩ ⟨by simp,rfl,rfl,List.nodup_nil,by simp,fun j ay=>by omega,by simp,by simp⟩
 refine ⟨q,?_,ad⟩;have db:=aa;simp only[List.append_nil]at db;exact db
structure CK (x:eh):Prop where
 b0:(∀y∈x.2.1.1,ow y)/\x.2.1.1.length<1000000000000000000
 b1:(∀y∈x.2.1.2.1,ow y)/\x.2.1.2.1.length<1000000000000000000
 b2:(∀y∈x.2.1.2.2.1,ow y)/\x.2.1.2.2.1.length<1000000000000000000
 b3:(∀y∈x.2.1.2.2.2.1,ow y)/\x.2.1.2.2.2.1.length<1000000000000000000
theorem apM (r:p6) (x:eh) (aw:CK x) (w:Nat) (hw:w<4) (p:bO) (s:ah) (piv:List af) (kids:List Int) (sums:List dX):
  ∃buf:List a6,buf.length<=5/\(∀m∈buf,gW m/\kk (m,s,())=some (true,()))/\Bd r ((w:Int),p,s,x,[],0,[],[],piv,kids,sums,())=mt r (p,[],0,[],piv,kids,sums,buf,()):=by
 obtain ⟨f0,a0,eo,a2⟩:=Dh _ aw.b0.1 s aw.b0.2;obtain ⟨f1,Ez,a7,aY⟩:=Dh _ aw.b1.1 s aw.b1.2;obtain ⟨f2,d0,d1,d2⟩:=Dh _ aw.b2.1 s aw.b2.2;obtain ⟨f3,g0,g1,g2⟩:=Dh _ aw.b3.1 s aw.b3.2;have ai:=ff w;have aq:(decide ((w:Int)<4))=true:=am (by omega);simp only[Bd,ai,aq,az,b7,bQ]
 match w,hw with
 |0,_=>exact ⟨f0,eo,a2,by simp only[a0];rfl⟩
 |1,_=>exact ⟨f1,a7,aY,by simp only[Ez];rfl⟩
 |2,_=>exact ⟨f2,d1,d2,by simp only[d0];rfl⟩
 |3,_=>exact ⟨f3,g1,g2,by simp only[g0];rfl⟩
theorem anD (r:p6) (t:List ak) (x:eh) (aU:ux t):yB (tr r) t x [] 1:=by
 intro ns s aQ;have b6:(decide ((((List.length ([]:List (List af))):Int):Int)>(0:Int)))=false:=rfl;have ai:(decide ((((List.length ([]:List (List af))):Int):Int)=(0:Int)))=true:=rfl;have aq:=aab t s (by have:=aU.len;omega);have bc:=aaU (ns:=ns) (n:=(inS s t,[],[],[],[],())) (ks:=[]) rfl (by simp) List.nodup_nil (by simp) (by omega);have bz:mk (ns++[(inS s t,[],[],[],[],())]) (fun j=>if j∈([]:List Nat) then 2 else 1)=mk (ns++[(inS s t,[],[],[],[],())]) (fun _=>1):=yw fun j _=>by simp
 rw[bz]at bc;refine ⟨[(inS s t,[],[],[],[],())],ns.length,?_,by simp,Nat.le_refl _,?_,by simp[rL],fun n aQ=> ?_⟩
 ·simp only[tr,b6,aM,GY,ai,az,aq,bc]
 ·show (ns++[_])[ns.length]? =_;simp
 ·rw[List.mem_singleton.1 aQ];have:=ql s t;have:=aU.len;exact ⟨by show (inS s t).length<=1000;omega,by simp,by simp,by simp,by simp⟩
theorem anE (r:p6) (t:List ak) (aU:ux t) (x:eh) (aw:CK x) (P:List af) (pv:List (List af)) (jk:P.length<=5) (aN: ∀q∈pv,q.length<=5) (l0:pv.length<=100) (c:Nat) (aA:yB r t x pv c):yB (tr r) t x (P::pv) (1+6*c):=by
 intro ns s aQ;have b6:(decide ((((List.length (P::pv)):Int):Int)>(0:Int)))=true:=am (by simp);have ai:(decide ((((List.length (P::pv)):Int):Int)=(0:Int)))=false:=bg (by simp;omega);have cZ:=apN r t (P::pv) (mk ns (fun _=>1),()) s x (by simp) (by show P.length<=100;omega);have bH:List.getD (P::pv) 0 []=P:=rfl;rw[bH]at cZ;have hm:(cl P s).length<=5:=Nat.le_trans (yv P s) jk;obtain ⟨e2,s4⟩: ∃m,cl P s=m:=⟨_,rfl⟩;rw[s4]at cZ hm;have aq:i64.wrap (((List.length e2):Int)+1)=((e2.length+1:Nat):Int):=by rw[cU (by omega)];omega
 have bc:(decide ((0:Int)<=((e2.length+1:Nat):Int))&&decide (((e2.length+1:Nat):Int)<=((e2.length+1:Nat):Int))&&decide (((e2.length+1:Nat):Int)*(8:Int)<=(bm:Int)))=true:=by
  rw[am (by omega),am (by omega),am (by rw[dV];omega)];rfl
 have gG:=ahM ([],e2,List.replicate (e2.length+1) (0:Int),[],[],()) s (by simp[List.replicate_succ]) (by show e2.length<=100000;omega);have gG:BU (([],e2,List.replicate (e2.length+1) (0:Int),[],[],()),s,())=some (partsOf s e2,()):=gG;have gH:=(Z8 s e2 (by omega)).2;obtain ⟨parts,Oh⟩: ∃p,partsOf s e2=p:=⟨_,rfl⟩;rw[Oh]at gG gH;have hmul:parts.length*c<=6*c:=Nat.mul_le_mul_right c (by omega);obtain ⟨q,bj,bU,da,c8,fk,gv,lC,wX,auf⟩:=apO r t aU x P pv aN c aA ns s parts e2 (by omega) (by omega) l0;have fin: ∀w:Nat,w<4-> ∃l i,Bd r ((w:Int),(mk (ns++q.l) (fun _=>1),()),s,x,[],0,[],[],e2,dL q.ks,q.sums,())=some (((mk (ns++l) (fun _=>1),()),((i:Nat):Int),()),())/\l.length<=1+6*c/\ns.length<=i/\gz (ns++l) t (P::pv) s i/\rL (P::pv) s<=l.length/\ ∀n∈l,uX n:=by
  intro w hw;obtain ⟨buf,b1,b2,b3⟩:=apM r x aw w hw (mk (ns++q.l) (fun _=>1),()) s e2 (dL q.ks) q.sums;have gL:=aqz r (ns++q.l) q.ks gv fk (by simp;omega) (by omega) e2 q.sums buf;refine ⟨q.l++[([],e2,dL q.ks,q.sums,buf,())],(ns++q.l).length,?_,by simp;omega,by simp,?_,?_,?_⟩
  ·rw[b3,gL,List.append_assoc]
  ·rw[<-List.append_assoc];refine ⟨q.ks,q.sums,buf,by rw[s4,List.getElem?_append_right (Nat.le_refl _)];simp,by rw[s4];omega,by omega,fk,gv,b1,b2,fun j ay=> ?_⟩;rw[s4,Oh];exact ⟨(lC j (by omega)).1.app _,(lC j (by omega)).2.app _⟩
  ·show 1+_<=_;rw[s4,Oh];simp;omega
  ·intro n aQ;rcases List.mem_append.1 aQ with aQ |aQ
   ·exact auf n aQ
   ·rw[List.mem_singleton.1 aQ];exact ⟨by simp,by show e2.length<=1000;omega,by show (dL q.ks).length<=1000;rw[iQ];omega,by show q.sums.length<=1000;omega,by show buf.length<=1000;omega⟩
 have hw:Int.tmod ((List.length s.1):Int) 3=((s.1.length%3:Nat):Int):=by
  rw[Int.tmod_eq_emod_of_nonneg (by omega)];omega
 have bz:i64.wrap ((1:Int)+((s.1.length%3:Nat):Int))=((1+s.1.length%3:Nat):Int):=by rw[cU (by omega)];omega
 simp only[tr,b6,az,cZ,GY,ai,aM,aq,bc,bQ,gG,bj,hw,bz];cases (!(aD.eqb ac s (([]:af),(([]:af),()))))
 ·exact fin 0 (by omega)
 ·exact fin _ (by omega)
theorem Xa (t:List ak) (x:eh) (aU:ux t) (aw:CK x): ∀(pv:List (List af)) (n:Nat),pv.length+1<=n->pv.length<=100->(∀q∈pv,q.length<=5)->yB (wx n) t x pv (cap pv.length)
 |_,0,h,_,_=>by omega
 |[],n+1,_,_,_=>anD (wx n) t x aU
 |P::pv,n+1,h,aa,ad=>anE (wx n) t aU x aw P pv (ad P List.mem_cons_self) (fun q aN=>ad q (List.mem_cons_of_mem _ aN)) (by simp at aa;omega) (cap pv.length) (Xa t x aU aw pv n (by simp at h;omega) (by simp at aa;omega) (fun q aN=>ad q (List.mem_cons_of_mem _ aN)))
structure y7 (x:eh):Prop where
 xok:CK x
 t:(∀y∈x.1,tM y)/\x.1.length<1000000000000000000
 w:0<=x.2.2.1/\x.2.2.1<256
def nU (x:eh):List ak:=mx (x.1.take 40)
def kv (x:eh):List (List af):=List.getD lI (x.2.2.1.toNat%4) []
theorem Mj (x:eh):kv x∈lI:=by
 have hw:x.2.2.1.toNat%4<lI.length:=Nat.mod_lt _ (by decide);unfold kv;rw[cq hw];exact List.getElem_mem hw
theorem Lt: ∀pv∈lI,pv.length<=2/\ ∀q∈pv,q.length<=5:=by decide
theorem af5 (x:eh) (h:y7 x): ∃ns root,C7 (x,())=some (((mk ns (fun _=>1),()),(((root:Nat):Int),(w3 x.2.2.1,()))),())/\gz ns (nU x) (kv x) cS root/\ns.length<=43/\rL (kv x) cS<=ns.length/\ ∀n∈ns,uX n:=by
 have b6:=apt x.1 h.t.1 h.t.2;have aU:=ahx x.1 h.t.1;obtain ⟨de,cP⟩:=Lt _ (Mj x);have ai:i64.wrap (Int.tmod x.2.2.1 (4:Int))=((x.2.2.1.toNat%4:Nat):Int):=by
  have:=h.w;rw[Int.tmod_eq_emod_of_nonneg this.1,cU (by omega)];omega
 have OG:x.2.2.1.toNat%4<4:=Nat.mod_lt _ (by decide);have aB:cap (kv x).length<=43:=by
  match (kv x).length,de with
  |0,_=>decide
  |1,_=>decide
  |2,_=>decide
 obtain ⟨l,i,b1,b2,b3,gL,gX,jG⟩:=Xa (nU x) x aU h.xok (kv x) jB (by rw[jV];omega) (by omega) cP [] cS (by simp;omega);have aaW:CZ ((([]:List (cY)),()),nU x,cS,kv x,x,())=some (((mk ([]++l) (fun _=>1),()),((i:Nat):Int),()),()):=b1;have aq:(decide ((0:Int)<=((x.2.2.1.toNat%4:Nat):Int)))=true:=am (by omega);have bc:(decide (((x.2.2.1.toNat%4:Nat):Int)<(List.length lI:Int)))=true:=am (by have:lI.length=4:=rfl;omega);refine ⟨[]++l,i,?_,gL,by simp;omega,by simpa using gX,by simpa using jG⟩;unfold kv nU at aaW;rw[aqh];simp only[b6,ai,aq,bc,b7,az,bQ,aaW]
def ahz (k:af):Nat:=match x3 (k,()) with
 |some (p,e,_)=>bif !decide (e=0) then 0 else bif decide (p.2.1=1) then 1 else bif decide (p.2.1=4) then 0 else 2
 |none=>9
def Sg (k:af):Nat:=match tJ (k,()) with
 |some (p,e,_)=>bif !decide (e=0) then 0 else bif decide (p.2.1=1) then 1 else bif decide (p.2.1=2) then 2 else bif decide (p.2.1=3) then 2 else 0
 |none=>9
def afT (p:ak):Prop:=ahz p.1=Sg p.1/\Sg p.1<=2/\p.2.1.length<=64
def afQ (s:dX):Prop:=(0<=s.1.1/\s.1.1<=s.1.2.1/\s.1.2.1<=1000000000000000)/\0<=s.2.1.1/\s.2.1.1<=s.2.1.2.1/\s.2.1.2.1<=1000000000000000
theorem gW.form {m:a6} (h:gW m): ∃a k v f t s n,m=kj a k v f t s n/\(0<=a/\a<6)/\(0<=n/\n<8)/\s.1.length<=200/\s.2.1.length<=200:=by
 obtain ⟨x,⟨aw,-,aa,ad⟩,e⟩:=h;obtain ⟨k,v,f,t,s,aq,-,-,-,de,cP⟩:=Dm x aw;have bz:m=_:=congrArg Prod.fst (Option.some.inj (e.symm.trans aq));have al:=aw.1;refine ⟨_,k,v,f,_,s,_,bz,?_,?_,de,cP⟩
 ·rw[Int.tmod_eq_emod_of_nonneg al.1];omega
 ·rw[Int.tmod_eq_emod_of_nonneg aa,cU (by omega)];omega
end D
open Go Go.X
namespace D
abbrev bx:ak->af:=fun p=>p.1
theorem aay (p:ak): ∀t:List ak,ck bx t->ck bx (ins p t)
 |[],_=>List.pairwise_singleton _ _
 |x::t,h=>by
  unfold ins;cases ag:Op.bytesLess x.1 p.1 with
  |true=>
   rw[az];refine List.pairwise_cons.2 ⟨fun y bf=> ?_,aay p t h.tail⟩;rcases L2 p y t bf with rfl |bf
   ·exact ag
   ·exact h.head y bf
  |false=>
   rw[aM];refine List.pairwise_cons.2 ⟨fun y bf=> ?_,List.Pairwise.filter _ h⟩;obtain ⟨aa,ad⟩:=List.mem_filter.1 bf;have cp:y.1≠p.1:=by simpa using ad
   have q3:Op.bytesLess y.1 x.1=false:=by
    rcases List.mem_cons.1 aa with rfl |aa
    ·exact gN _
    ·exact hJ (h.head y aa)
   show Op.bytesLess p.1 y.1=true;rcases hi p.1 y.1 with al |al |al
   ·exact al
   ·exact absurd al.symm cp
   ·
    rcases hi p.1 x.1 with aE |aE |aE
    ·rw[e6 al aE]at q3;cases q3
    ·rw[aE]at al;rw[al]at q3;cases q3
    ·rw[aE]at ag;cases ag
theorem aqq (l:List fc):ck bx (mx l):=by
 have key: ∀(l:List fc) (t:List ak),ck bx t->ck bx (l.foldl (fun t x=>ins (m5 x) t) t):=by
  intro l
  induction l with
  |nil=>intro t h;exact h
  |cons x l aO=>intro t h;exact aO _ (aay _ _ h)
 exact key l [] List.Pairwise.nil
structure cA (t:List ak):Prop where
 len:t.length<=1000
 srt:ck bx t
 key: ∀p∈t,1<=p.1.length/\p.1.length<=65535
 val: ∀p∈t,p.2.1.length<=64
 stamp: ∀p∈t,0<=p.2.2.1/\p.2.2.1<=1000000000
 chg: ∀p∈t,afT p
theorem cA.inS {t:List ak} (h:cA t) (s:ah):cA (inS s t):=
 ⟨Nat.le_trans (ql s t) h.len,List.Pairwise.filter _ h.srt,fun p aP=>h.key p (List.mem_filter.1 aP).1,fun p aP=>h.val p (List.mem_filter.1 aP).1,fun p aP=>h.stamp p (List.mem_filter.1 aP).1,fun p aP=>h.chg p (List.mem_filter.1 aP).1⟩
theorem oB: ∀(t:aD) (x:t.den),aD.eqb t x x=true
 | .bool,x=>by simp[aD.eqb]
 | .int _,x=>by simp[aD.eqb]
 | .str,x=>by simp[aD.eqb]
 | .pair a b,x=>by simp[aD.eqb,oB a,oB b]
 | .list _,_=>rfl
 | .unit,_=>rfl
 | .opq,_=>rfl
theorem ans {s:ah} (h:mV s):j8 (s,())=some (false,()):=by
 unfold j8;rcases h with h |h
 ·simp only[h,cL,du,aM]
 ·have ad:=hJ h;have al: ¬s.2.1=s.1:=fun e=>by rw[e,gN]at h;cases h
  simp only[ad,bg al,Bool.or_false];cases (!decide (s.2.1=([]:af)))<;>rfl
theorem at8 {a b c:Int} (aa:b<=a) (ad:a<=c):oW (a,b,c,())=some (true,()):=by
 simp only[oW,am aa,am ad,az]
theorem agz (a b:af):o5 (a,b,())=some (bI a b,()):=by
 unfold bI;by_cases h:b.length<=a.length
 ·have a7:((a.length:Int)>=(b.length:Int)):=by omega
  have aY:((0:Int)<=(b.length:Int)):=by omega
  have c3:((b.length:Int)<=(a.length:Int)):=by omega
  simp only[o5,a7,aY,c3,am h,am,az,b7,bQ,Bool.true_and,List.drop_zero,Int.toNat_zero]
 ·have a7: ¬((a.length:Int)>=(b.length:Int)):=by omega
  simp only[o5,a7,bg h,bg,aM,Bool.false_and,not_false_eq_true]
theorem YW: ∀p∈eD,1<=p.length/\p.length<=200:=by decide
theorem ZS {f t:af} (aK:f∈eD) (aU:t∈eD) (h:bI f t=false/\bI t f=false):yj (f,t,())=some (true,()):=by
 obtain ⟨eo,a2⟩:=YW f aK;obtain ⟨b1,b2⟩:=YW t aU;have ai:=at8 (a:=(f.length:Int)) (b:=1) (c:=200) (by omega) (by omega);have aq:=at8 (a:=(t.length:Int)) (b:=1) (c:=200) (by omega) (by omega);simp only[yj,ai,aq,az,tf,agz,h.1,h.2,dm]
theorem aat {s:ah} (h:mV s) (aa:s.1.length<=200) (ad:s.2.1.length<=200):yx (s,())=some (true,()):=by
 have e:(decide ((if ((List.length s.1:Int))<((List.length s.2.1:Int)) then ((List.length s.2.1):Int) else ((List.length s.1):Int))<=(65535:Int)))=true:=am (by split<;>omega);simp only[yx,ans h,dm,az,e]
theorem rT: ∀k∈iX,1<=k.length/\k.length<=100:=by
 have hlen:iX.all (fun k=>decide (1<=k.length)&&decide (k.length<=100))=true:=by kernel_rfl
 intro k av;have:=List.all_eq_true.1 hlen k av;simpa using this
theorem qm {k:af} (h:k∈iX):oz (k,())=some ((k,(k++[0],())),())/\mR (k,())=some ((k,(k++[0],())),()):=by
 have:=(rT k h).2;have e:(decide (List.length k+List.length ([0]:af)<=bm))=true:=am (by rw[dV];simp;omega);exact ⟨by simp only[oz,e,az],by simp only[mR,e,az]⟩
theorem ZN {m:a6} (hm:gW m):ou (m,())=some (true,())/\ ∃R W:List ah,pT (m,())=some (R,())/\mP (m,())=some (R,())/\om (m,())=some (W,())/\h2 (m,())=some (W,())/\R.length<=2/\W.length<=2:=by
 have cF:=hm.ok;obtain ⟨q,k,v,f,t,s,n,rfl,aN,aQ,ke,pr⟩:=hm.form;have Mv:q=0\/q=1\/q=2\/q=3\/q=4\/q=5:=by omega
 rcases Mv with rfl |rfl |rfl |rfl |rfl |rfl
 ·have jo:kj 0 k v f t s n=(1,k,v,([],[],()),[],[],n,()):=rfl;rw[jo]at cF ⊢;have av:k∈iX:=cF.key (.inl rfl);have aX:v.length<=10:=cF.val rfl;have ai:=at8 (a:=(k.length:Int)) (b:=1) (c:=65535) (by have:=(rT k av).1;omega) (by have:=(rT k av).2;omega);have aq:=at8 (a:=n) (b:=0) (c:=1000000000) (by omega) (by omega);have bc:(decide ((((List.length v):Int):Int)<=(64:Int)))=true:=am (by omega);have f4:(decide ((1:Int)=4))=false:=rfl;have f5:(decide ((1:Int)=5))=false:=rfl;have f6:(decide ((1:Int)=6))=false:=rfl;exact ⟨by simp only[ou,Jj,cL,az,ai,bc,aq,Kb,oB],[],[(k,(k++[0],()))],by simp only[pT,Ji,cL,az],by simp only[mP,pB,f4,f5,f6,aM],by simp only[om,IK,cL,az,(qm av).1],by simp only[h2,jH,cL,az,(qm av).2],by simp,by simp⟩
 ·have jo:kj 1 k v f t s n=(2,k,[],([],[],()),[],[],0,()):=rfl;rw[jo]at cF ⊢;have av:k∈iX:=cF.key (.inr rfl);have ai:=at8 (a:=(k.length:Int)) (b:=1) (c:=65535) (by have:=(rT k av).1;omega) (by have:=(rT k av).2;omega);have f1:(decide ((2:Int)=1))=false:=rfl;have f4:(decide ((2:Int)=4))=false:=rfl;have f5:(decide ((2:Int)=5))=false:=rfl;have f6:(decide ((2:Int)=6))=false:=rfl;exact ⟨by simp only[ou,Je,f1,cL,az,aM,ai,J9,oB],[],[(k,(k++[0],()))],by simp only[pT,Jd,f1,cL,az,aM],by simp only[mP,pB,f4,f5,f6,aM],by simp only[om,IE,f1,cL,az,aM,(qm av).1],by simp only[h2,jH,f1,cL,az,aM,(qm av).2],by simp,by simp⟩
 ·have jo:kj 2 k v f t s n=(3,[],[],s,[],[],0,()):=rfl;rw[jo]at cF ⊢;have ar:mV s:=cF.span (.inl rfl);have ai:=aat ar ke pr;have f1:(decide ((3:Int)=1))=false:=rfl;have f2:(decide ((3:Int)=2))=false:=rfl;have f4:(decide ((3:Int)=4))=false:=rfl;have f5:(decide ((3:Int)=5))=false:=rfl;have f6:(decide ((3:Int)=6))=false:=rfl;exact ⟨by simp only[ou,IH,f1,f2,cL,az,aM,ai,Jf,oB],[],[s],by simp only[pT,IG,f1,f2,cL,az,aM],by simp only[mP,pB,f4,f5,f6,aM],by simp only[om,Qs,f1,f2,cL,az,aM],by simp only[h2,jH,f1,f2,f4,f5,aM],by simp,by simp⟩
 ·have jo:kj 3 k v f t s n=(4,[],[],([],[],()),f,t,0,()):=rfl;rw[jo]at cF ⊢;have aK:=cF.from_ (.inl rfl);have aU:=cF.to_ (.inl rfl);have ai:=ZS aK aU (cF.apart (.inl rfl));obtain ⟨gG,gH,-⟩:=jr f (iR f aK);obtain ⟨au,aL,-⟩:=jr t (iR t aU);have f1:(decide ((4:Int)=1))=false:=rfl;have f2:(decide ((4:Int)=2))=false:=rfl;have f3:(decide ((4:Int)=3))=false:=rfl;exact ⟨by simp only[ou,IJ,f1,f2,f3,cL,az,aM,ai,Jg,oB],[c2 f],[c2 f,c2 t],by simp only[pT,II,f1,f2,f3,cL,az,aM,gG],by simp only[mP,pB,cL,az,gH],by simp only[om,Qt,f1,f2,f3,cL,az,aM,gG,au],by simp only[h2,jH,f1,f2,cL,az,aM,gH,aL],by simp,by simp⟩
 ·have jo:kj 4 k v f t s n=(5,[],[],([],[],()),f,t,0,()):=rfl;rw[jo]at cF ⊢;have aK:=cF.from_ (.inr rfl);have aU:=cF.to_ (.inr rfl);have ai:=ZS aK aU (cF.apart (.inr rfl));obtain ⟨gG,gH,-⟩:=jr f (iR f aK);obtain ⟨au,aL,-⟩:=jr t (iR t aU);have f1:(decide ((5:Int)=1))=false:=rfl;have f2:(decide ((5:Int)=2))=false:=rfl;have f3:(decide ((5:Int)=3))=false:=rfl;have f4:(decide ((5:Int)=4))=false:=rfl;exact ⟨by simp only[ou,Qr,f1,f2,f3,f4,cL,az,aM,ai,ID,oB],[c2 f],[c2 t],by simp only[pT,Qq,f1,f2,f3,f4,cL,az,aM,gG],by simp only[mP,pB,f4,cL,az,aM,gH],by simp only[om,PX,f1,f2,f3,f4,cL,az,aM,au],by simp only[h2,jH,f1,f2,f4,cL,az,aM,aL],by simp,by simp⟩
 ·have jo:kj 5 k v f t s n=(6,[],[],s,[],[],n,()):=rfl;rw[jo]at cF ⊢;have ar:mV s:=cF.span (.inr rfl);have ai:=aat ar ke pr;have aq:=at8 (a:=n) (b:=0) (c:=1000000000) (by omega) (by omega);have f1:(decide ((6:Int)=1))=false:=rfl;have f2:(decide ((6:Int)=2))=false:=rfl;have f3:(decide ((6:Int)=3))=false:=rfl;have f4:(decide ((6:Int)=4))=false:=rfl;have f5:(decide ((6:Int)=5))=false:=rfl;exact ⟨by simp only[ou,Qw,f1,f2,f3,f4,f5,cL,az,aM,ai,aq,IL,oB],[s],[s],by simp only[pT,Qv,f1,f2,f3,f4,f5,cL,az,aM],by simp only[mP,pB,f4,f5,cL,az,aM],by simp only[om,PY,f1,f2,f3,f4,f5,cL,az,aM],by simp only[h2,jH,f1,f2,f4,f5,aM],by simp,by simp⟩
theorem anU {m:a6} {s:ah} {R W:List ah} (kF:mP (m,())=some (R,())) (hl:h2 (m,())=some (W,())) (aA:R.length<=2) (hw:W.length<=2) (h:kk (m,s,())=some (true,())): ∀x∈R++W,oi (s,x,())=some (true,()):=by
 have ai:(decide ((List.length ([]:List (ah))+List.length R)*32<=bm))=true:=am (by rw[dV];simp;omega);have aq:(decide ((List.length (([]:List (ah))++R)+List.length W)*32<=bm))=true:=am (by rw[dV];simp;omega);obtain ⟨l,ao⟩: ∃l,([]++R)++W=l:=⟨_,rfl⟩;have awv:l.length<=4:=by rw[<-ao];simp;omega
 have gP:R++W=l:=by rw[<-ao];rfl
 obtain ⟨z,aa,ad⟩:=dY (b:=re) (fun i (_:Unit)=>((i:Int),s,l,())) l.length (fun i _=> ∀j (ay:j<l.length),j<i->oi (s,l[j],())=some (true,())) (fun z=>z=.inl (false,())\/(z=.inr ()/\ ∀x∈l,oi (s,x,())=some (true,()))) (by omega)
  (fun i ab _ ay=>by
   have ai:=gA (i:=i) (l:=l) (by omega);have aq:=ff i;have bc:=fL i (by omega);obtain ⟨r,aA⟩:=YS s l[i];simp only[re,ai,aq,az,b7,bQ,cq ab,aA,bc];cases r
   ·exact .inr ⟨_,.inl rfl,rfl⟩
   ·refine .inl ⟨(),fun j fR bb=> ?_,rfl⟩;rcases Nat.lt_or_ge j i with h |h
    ·exact ay j fR h
    ·have:j=i:=by omega
     subst this;exact aA)
  (fun _ ay=>by
   have ai:=hk l;refine ⟨_,.inr ⟨rfl,fun x aw=> ?_⟩,by simp only[re,ai,aM]⟩;obtain ⟨j,fR,rfl⟩:=List.mem_iff_getElem.1 aw;exact ay j fR fR) () (fun j ay h=>by omega)
 have db:Hh (0,s,l,())=some z:=aa;rcases ad with rfl |⟨rfl,al⟩
 ·simp only[kk,kF,hl,ai,aq,az,ao,db]at h;cases h
 ·intro x aw;rw[gP]at aw;exact al x aw
def afU (ps:List af) (s:ah):Prop:= ∀i (h:i<ps.length),Op.bytesLess (List.getD (s.1::ps) i []) ps[i]=true/\(s.2.1=[]\/Op.bytesLess ps[i] s.2.1=true)
def qR:List (List af)->ah->Bool
 |[],_=>true
 |P::pv,s=>(match pW (s,cl P s,()) with
   |some (l,_)=>decide (l=partsOf s (cl P s))
   |none=>false)&&(partsOf s (cl P s)).all (qR pv)
theorem ag4: ∀pv∈lI,qR pv cS=true:=by
 have h:lI.all (fun pv=>qR pv cS)=true:=by kernel_rfl
 exact fun pv aP=>List.all_eq_true.1 h pv aP
theorem apJ: ∀pv∈lI,∀P∈pv,P.Pairwise fun a b=>Op.bytesLess a b=true:=by decide
theorem aoz {P:List af} {pv:List (List af)} {s:ah} (h:qR (P::pv) s=true):pW (s,cl P s,())=some (partsOf s (cl P s),())/\ ∀q∈partsOf s (cl P s),qR pv q=true:=by
 rw[qR,bB]at h;obtain ⟨aa,ad⟩:=h;refine ⟨?_,fun q aN=>List.all_eq_true.1 ad q aN⟩;cases e:pW (s,cl P s,()) with
 |none=>rw[e]at aa;cases aa
 |some r=>
  obtain ⟨l,u⟩:=r;rw[e]at aa;have:l=partsOf s (cl P s):=of_decide_eq_true aa;rw[this]
theorem am7 {n:bs} {s:ah} {l:List ah} (bY:n.2.2.1≠[]) (h:pW (s,n.2.1,())=some (l,())):yb (n,s,())=some (l,()):=by
 have b6:(decide ((((List.length n.2.2.1):Int):Int)=(0:Int)))=false:=bg (by
  have:=List.length_pos_iff.2 bY;omega)
 simp only[yb,b6,aM,h]
theorem aha {ks:List Nat} (h:0<ks.length):dL ks≠[]:=by
 intro e;have:=congrArg List.length e;rw[iQ,List.length_nil]at this;omega
theorem gz.set {ns:List bs} {t:List ak} {r:Nat} (N:bs): ∀{pv:List (List af)} {s:ah} {i:Nat},i<r->gz ns t pv s i->gz (ns.set r N) t pv s i
 |[],s,i,ab,h=>by
  show (ns.set r N)[i]? =_;rw[List.getElem?_set_ne (by omega)];exact h
 |P::pv,s,i,ab,⟨ks,sums,buf,aa,ad,al,aE,aZ,bu,dq,h4⟩=>by
  refine ⟨ks,sums,buf,?_,ad,al,aE,aZ,bu,dq,fun j ay=> ?_⟩
  ·rw[List.getElem?_set_ne (by omega)];exact aa
  ·have av:ks.getD j 0<i:=by
    rw[cq ay];exact aZ _ (List.getElem_mem ay)
   obtain ⟨a7,n,aY,c3⟩:=h4 j ay;exact ⟨a7.set N (by omega),n,by rw[List.getElem?_set_ne (by omega)];exact aY,c3⟩
structure avY (ns:List bs) (t:List ak) (P:List af) (pv:List (List af)) (root:Nat) (ks:List Nat) (sums:List dX) (buf:List a6):Prop where
 n:ns[root]? =some ([],cl P cS,dL ks,sums,buf,())
 kl:ks.length=(cl P cS).length+1
 sl:sums.length=ks.length
 ml:(cl P cS).length<=5
 piv:afU (cl P cS) cS
 lt: ∀k∈ks,k<root
 r:root<900
 ins: ∀q∈sums,afQ q
 bl:buf.length<=5
 buf: ∀m∈buf,gW m/\kk (m,cS,())=some (true,())
 kid: ∀j,j<ks.length->gz ns t pv (List.getD (partsOf cS (cl P cS)) j cS) (ks.getD j 0)/\oN ns (ks.getD j 0) (List.getD sums j w7)
 sp:pW (cS,cl P cS,())=some (partsOf cS (cl P cS),())
 pl:(partsOf cS (cl P cS)).length=(cl P cS).length+1
 good: ∀q∈partsOf cS (cl P cS),qR pv q=true
section
variable {ns:List bs} {t:List ak} {P:List af} {pv:List (List af)} {root:Nat} {ks:List Nat} {sums:List dX} {buf:List a6}
end
theorem D0 {x y:af}:(la x y<0)↔Op.bytesLess x y=true:=by
 unfold la;split
 ·simp[*]
 ·rename_i h;split
  ·rename_i he;subst he;simp[gN]
  ·simp[h]
theorem aqF (l:List ak) (k:af) (ar:ck bx l) (ao:l.length<10000000000000):
  Ex (l,k,())=some ((cD bx k l:Int),eB (key:=bx) k l,()):=by
 have hle:=mY (key:=bx) k l;obtain ⟨r,aa,ad⟩:=yh (b:=Ew) (fun s=>(s.2.2.2.2.1-s.2.2.2.1).toNat)
  (fun s=> ∃I J:Nat,s=(l,k,(l.length:Int),(I:Int),(J:Int),())/\I<=J/\J<=l.length/\(∀(m:Nat) (h:m<l.length),m<I->Op.bytesLess (l[m]).1 k=true)/\(∀(m:Nat) (h:m<l.length),J<=m->Op.bytesLess (l[m]).1 k=false))
  (fun r=>r=.inl (l,k,(l.length:Int),(cD bx k l:Int),()))
  (fun s ab=>by
   obtain ⟨I,J,rfl,i1,i2,i3,i4⟩:=ab;have hm:=RZ (I:=I) (J:=J) (by omega);unfold Ew;simp only[hm];by_cases nu:I<J
   ·left;have a7:((I:Int)<(J:Int)):=by omega
    have cV:i64.wrap (((I+J)/2:Nat):Int)=(((I+J)/2:Nat):Int):=cU (by omega);have aY:((0:Int)<=(((I+J)/2:Nat):Int)):=by omega
    have c3:((((I+J)/2:Nat):Int)<(l.length:Int)):=by omega
    have bb:(I+J)/2<l.length:=by omega
    have bH:List.getD l ((I+J)/2) (([]:af),(([]:af),((0:Int),())))=l[(I+J)/2]:=cq bb;have c9:i64.wrap ((((I+J)/2:Nat):Int)+1)=(((I+J)/2+1:Nat):Int):=by rw[cU (by omega)];omega
    simp only[cV,a7,aY,c3,am,az,b7,bQ,bH,YY,c9];cases ag:Op.bytesLess (l[(I+J)/2]).1 k
    ·have fe: ¬(la (l[(I+J)/2]).1 k<0):=by rw[D0,ag];simp
     simp only[fe,bg,aM,not_false_eq_true];refine ⟨_,rfl,⟨I,(I+J)/2,rfl,by omega,by omega,i3,fun m h hm=> ?_⟩,by simp;omega⟩;rcases Nat.lt_or_ge m J with aZ |aZ
     ·cases dB:Op.bytesLess (l[m]).1 k
      ·rfl
      ·rcases Nat.eq_or_lt_of_le hm with bu |bu
       ·subst bu;rw[ag]at dB;cases dB
       ·have dq:Op.bytesLess (l[(I+J)/2]).1 (l[m]).1=true:=List.pairwise_iff_getElem.1 ar _ _ bb h bu;have:=e6 dq dB;rw[ag]at this;cases this
     ·exact i4 m h aZ
    ·have fe:(la (l[(I+J)/2]).1 k<0):=by rw[D0,ag]
     simp only[fe,am,az];refine ⟨_,rfl,⟨(I+J)/2+1,J,rfl,by omega,i2,fun m h hm=> ?_,i4⟩,by simp;omega⟩;rcases Nat.eq_or_lt_of_le (show m<=(I+J)/2 by omega) with bu |bu
     ·subst bu;exact ag
     ·have dq:Op.bytesLess (l[m]).1 (l[(I+J)/2]).1=true:=List.pairwise_iff_getElem.1 ar _ _ h bb bu;exact e6 dq ag
   ·right;have a7: ¬((I:Int)<(J:Int)):=by omega
    have he:I=J:=by omega
    subst he;simp only[a7,bg,aM,not_false_eq_true];refine ⟨_,rfl,?_⟩;have:=KF (key:=bx) k l ar I i2 i3 i4;rw[this])
  (l,k,(l.length:Int),(0:Int),(l.length:Int),()) ⟨0,l.length,by simp,by omega,by omega,fun m h hm=>by omega,fun m h hm=>by omega⟩ (by simp;omega)
 subst ad;unfold Ex Mu;simp only[aa];by_cases bb:cD bx k l<l.length
 ·have a7:((cD bx k l:Int)<(l.length:Int)):=by omega
  have aY:((0:Int)<=(cD bx k l:Int)):=by omega
  have bH:List.getD l (cD bx k l) (([]:af),(([]:af),((0:Int),())))=l[cD bx k l]:=cq bb;simp only[a7,aY,am,az,b7,bQ,bH,YY];rw[D5 k l ar bb];congr 2;have:(la (l[cD bx k l]).1 k=0)↔(l[cD bx k l]).1=k:=agi;simp only[this]
 ·have a7: ¬((cD bx k l:Int)<(l.length:Int)):=by omega
  simp only[a7,bg,aM,not_false_eq_true];rw[yt k l (by omega)]
theorem DU (l:List ak) (k:af) (ar:ck bx l) (ao:l.length<10000000000000):tK (l,k,())=some ((cD bx k l:Int),eB (key:=bx) k l,()):=by
 unfold tK;simp only[aqF l k ar ao]
section
variable {α:Type} {key:α->af}
theorem yK (k:af): ∀l:List α,ck key l->l.take (cD key k l)=l.filter fun a=>Op.bytesLess (key a) k
 |[],_=>rfl
 |a::l,ar=>by
  unfold cD;by_cases h:Op.bytesLess (key a) k=true
  ·rw[if_pos h,List.take_succ_cons,yK k l ar.tail,List.filter_cons,if_pos h]
  ·rw[if_neg h,List.take_zero]
   symm
   rw[List.filter_eq_nil_iff];intro b ag bb;rcases List.mem_cons.1 ag with rfl |ag
   ·exact h bb
   ·exact h (e6 (ar.head b ag) bb)
theorem D4 (k:af): ∀l:List α,ck key l->l.drop (cD key k l)=l.filter fun a=> !Op.bytesLess (key a) k
 |[],_=>rfl
 |a::l,ar=>by
  unfold cD;by_cases h:Op.bytesLess (key a) k=true
  ·rw[if_pos h,List.drop_succ_cons,D4 k l ar.tail,List.filter_cons,if_neg (by rw[h];simp)]
  ·rw[if_neg h,List.drop_zero]
   symm
   rw[List.filter_eq_self];intro b ag;rcases List.mem_cons.1 ag with rfl |ag
   ·simpa using h
   ·cases bb:Op.bytesLess (key b) k
    ·rfl
    ·exact absurd (e6 (ar.head b ag) bb) h
theorem yU {lo ab:af} (h:Op.bytesLess lo ab=true): ∀l:List α,ck key l->cD key lo l<=cD key ab l
 |[],_=>Nat.le_refl _
 |a::l,ar=>by
  unfold cD;have aO:=yU h l ar.tail;by_cases aa:Op.bytesLess (key a) lo=true
  ·rw[if_pos aa,if_pos (e6 aa h)];omega
  ·rw[if_neg aa];omega
theorem ahG {lo ab:af} (h:Op.bytesLess lo ab=true) (l:List α) (ar:ck key l):(l.take (cD key ab l)).drop (cD key lo l)=l.filter fun a=> !Op.bytesLess (key a) lo&&Op.bytesLess (key a) ab:=by
 have e:cD key lo (l.take (cD key ab l))=cD key lo l:=by
  symm
  have hle:=yU h l ar;have N3:=mY (key:=key) ab l;apply KF lo _ (List.Pairwise.sublist (List.take_sublist _ _) ar)
  ·rw[List.length_take];omega
  ·intro m hm aa;rw[List.getElem_take];exact Mi lo l m (by rw[List.length_take]at hm;omega) aa
  ·intro m hm aa;rw[List.getElem_take];exact Mh lo l ar m (by rw[List.length_take]at hm;omega) aa
 conv=>lhs;rw[<-e]
 rw[D4 lo _ (List.Pairwise.sublist (List.take_sublist _ _) ar),yK ab l ar,List.filter_filter]
end
theorem L0 (s:ah) (k:af):xx (s,k,())=some (bX s k,()):=by
 unfold xx bX;cases Op.bytesLess k s.1<;>cases decide ((s.2.1:af)=[])<;>simp
theorem Z0 (s:ah) (h:mV s):j8 (s,())=some (false,()):=by
 unfold j8;rcases h with h |h
 ·have:decide ((s.2.1:af)=[])=true:=am h;simp only[this,du,aM]
 ·have aQ:s.2.1≠[]:=by
   intro e;rw[e]at h;cases s.1<;>simp[Op.bytesLess]at h
  have:decide ((s.2.1:af)=[])=false:=bg aQ;have ad:decide ((s.2.1:af)=s.1)=false:=bg (fun e=>js h e.symm);simp only[this,dm,az,hJ h,ad,Bool.or_self]
theorem apF (t:List ak) (s:ah) (h:mV s) (ar:ck bx t) (ao:t.length<10000000000000):CT (t,s,())=some (t.filter (fun p=>bX s p.1),()):=by
 have aa:=mY (key:=bx) s.1 t;have ad:=mY (key:=bx) s.2.1 t;unfold CT BJ;simp only[Z0 s h,aM,DU t _ ar ao];by_cases aQ:s.2.1=[]
 ·have c:decide ((s.2.1:af)=[])=true:=am aQ;have a7:((0:Int)<=(cD bx s.1 t:Int)):=by omega
  have aY:((cD bx s.1 t:Int)<=(t.length:Int)):=by omega
  simp only[c,du,aM,a7,aY,am,b7,az,Int.le_refl,bQ,List.take_length];rw[D4 s.1 t ar];congr 2;apply List.filter_congr;intro p _;unfold bX;simp[aQ,bx]
 ·have bb:=h.resolve_left aQ;have al:=yU (key:=bx) bb t ar;have c:decide ((s.2.1:af)=[])=false:=bg aQ;have a7:((0:Int)<=(cD bx s.1 t:Int)):=by omega
  have aY:((cD bx s.1 t:Int)<=(cD bx s.2.1 t:Int)):=by omega
  have c3:((cD bx s.2.1 t:Int)<=(t.length:Int)):=by omega
  simp only[c,dm,az,a7,aY,c3,am,b7,bQ];rw[ahG bb t ar];congr 2;apply List.filter_congr;intro p _;unfold bX;simp[aQ,bx]
section
variable {α:Type} {key:α->af}
theorem DM {x:α}: ∀{l:List α},(∀b∈l,Op.bytesLess (key b) (key x)=true)->gw key x l=l++[x]
 |[],_=>rfl
 |a::l,h=>by
  unfold gw;rw[if_neg (by rw[hJ (h a List.mem_cons_self)];simp),DM (fun b ag=>h b (List.mem_cons_of_mem _ ag))];rfl
theorem K0 {x a:α} (h:Op.bytesLess (key x) (key a)=true): ∀l:List α,gw key x (l++[a])=gw key x l++[a]
 |[]=>by simp[gw,h]
 |b::l=>by
  have aO:=K0 h l;simp only[List.cons_append,gw];by_cases ag:Op.bytesLess (key x) (key b)=true
  ·rw[if_pos ag,if_pos ag];rfl
  ·rw[if_neg ag,if_neg ag,aO];rfl
theorem LJ {k:af} {a:α} (l:List α):gU key k (l++[a])=gU key k l++(if key a=k then [] else [a]):=by
 unfold gU;rw[List.filter_append];congr 1;by_cases h:key a=k<;>simp[h]
end
theorem Yy (t:List ak) (p:ak) (ar:ck bx t) (ao:t.length<1000000000000):w4 (t,p,())=some (gw bx p (gU bx p.1 t),()):=by
 obtain ⟨r,aa,ad⟩:=dY (b:=q4) (fun i (s:Bool×List ak)=>(t,s.1,(i:Int),p,s.2,())) t.length
  (fun i s=>s.2.length<=i+1/\(s.1=false->s.2=t.take i/\ ∀b∈t.take i,Op.bytesLess b.1 p.1=true)/\(s.1=true->s.2=gw bx p (gU bx p.1 (t.take i))/\ ∃b∈t.take i,Op.bytesLess b.1 p.1=false))
  (fun r=> ∃d o,r=.inl (d,p,o,())/\o.length<=t.length+1/\(bif d then o else o++[p])=gw bx p (gU bx p.1 t)) (by omega)
  (fun i ab s ta=>by
   left;obtain ⟨d,o⟩:=s;obtain ⟨an,aK,OB⟩:=ta;have an:o.length<=i+1:=an;have a7:((i:Int)<(t.length:Int)):=by omega
   have aY:((0:Int)<=(i:Int)):=by omega
   have bH:List.getD t i (([]:af),(([]:af),((0:Int),())))=t[i]:=cq ab;have w:=fL i (by omega);have room: ∀(o:List ak) (q:ak),o.length<=i+2->(o.length+([q]:List ak).length)*40<=bm:=fun o q h=>by rw[dV];simp;omega
   have iV:t.take (i+1)=t.take i++[t[i]]:=eV ab;have asc: ∀b∈t.take i,Op.bytesLess b.1 (t[i]).1=true:=by
    intro b ag;obtain ⟨j,ay,rfl⟩:=List.getElem_of_mem ag;rw[List.getElem_take];rw[List.length_take]at ay;exact List.pairwise_iff_getElem.1 ar j i (by omega) ab (by omega)
   have FP: ∀(d:Bool) (o:List ak),o.length<=i+2->Ge (t,d,(i:Int),p,o,())=some (.inl (t,d,((i+1:Nat):Int),p,(if (t[i]).1=p.1 then o else o++[t[i]]),())):=by
    intro d o h;unfold Ge;by_cases he:(t[i]).1=p.1
    ·simp only[a7,aY,am,az,b7,bQ,bH,w,he,du,aM,if_pos]
    ·simp only[a7,aY,am,az,b7,bQ,bH,w,bg he,dm,room o _ h,if_neg he]
   cases d with
   |false=>
    obtain ⟨rfl,eY⟩:=aK rfl;have hw:gU bx p.1 (t.take i)=t.take i:=by
     apply DW;rw[eB,List.any_eq_false];intro b ag;have:=js (eY b ag);simpa using this
    have NH: ∀c,c=(Op.bytesLess p.1 (t[i]).1||decide (p.1=(t[i]).1))->q4 (t,false,(i:Int),p,t.take i,())=sV (t,false,(i:Int),c,p,t.take i,()):=by
     intro c aB;unfold q4;simp only[a7,aY,am,az,b7,bQ,bH,dm,aB]
    have hlen:(t.take i).length<=i:=by rw[List.length_take];omega
    by_cases bb:Op.bytesLess p.1 (t[i]).1=true
    ·have cp: ¬(t[i]).1=p.1:=fun e=>js bb e.symm
     refine ⟨(true,t.take i++[p]++[t[i]]),⟨by simp;omega,(by intro h;cases h),fun _=>⟨?_,t[i],by rw[iV];exact List.mem_append_right _ (List.mem_singleton.2 rfl),hJ bb⟩⟩,?_⟩
     ·rw[iV,LJ,if_neg cp,hw,K0 (key:=bx) bb,DM (key:=bx) eY]
     ·rw[NH true (by rw[bb];rfl)];unfold sV;simp only[az,room (t.take i) p (by omega),am];rw[FP true _ (by simp;omega),if_neg cp]
    ·have bb:Op.bytesLess p.1 (t[i]).1=false:=by simpa using bb
     by_cases he:(t[i]).1=p.1
     ·refine ⟨(true,t.take i++[p]),⟨by simp;omega,(by intro h;cases h),fun _=>⟨?_,t[i],by rw[iV];exact List.mem_append_right _ (List.mem_singleton.2 rfl),by rw[he];exact gN _⟩⟩,?_⟩
      ·rw[iV,LJ,if_pos he,List.append_nil,hw,DM (key:=bx) eY]
      ·rw[NH true (by rw[bb,am he.symm];rfl)];unfold sV;simp only[az,room (t.take i) p (by omega),am];rw[FP true _ (by simp;omega),if_pos he]
     ·have oa:Op.bytesLess (t[i]).1 p.1=true:=by
       rcases hi p.1 (t[i]).1 with h |h |h
       ·rw[h]at bb;cases bb
       ·exact absurd h.symm he
       ·exact h
      refine ⟨(false,t.take i++[t[i]]),⟨by simp;omega,fun _=>⟨iV.symm,?_⟩,by intro h;cases h⟩,?_⟩
      ·rw[iV];intro b ag;rcases List.mem_append.1 ag with ag |ag
       ·exact eY b ag
       ·obtain rfl:=List.mem_singleton.1 ag;exact oa
      ·rw[NH false (by rw[bb,bg (fun e=>he e.symm)];rfl)];unfold sV;simp only[aM];rw[FP false _ (by omega),if_neg he]
   |true=>
    obtain ⟨rfl,b,ag,NM⟩:=OB rfl;have zR:=asc b ag;have acg:Op.bytesLess p.1 (t[i]).1=true:=by
     rcases hi p.1 b.1 with h |h |h
     ·exact e6 h zR
     ·rw[h];exact zR
     ·rw[h]at NM;cases NM
    have cp: ¬(t[i]).1=p.1:=fun e=>js acg e.symm
    refine ⟨(true,gw bx p (gU bx p.1 (t.take i))++[t[i]]),⟨?_,(by intro h;cases h),fun _=>⟨?_,b,by rw[iV];exact List.mem_append_left _ ag,NM⟩⟩,?_⟩
    ·rw[List.length_append,DN];have hw:((gU bx p.1 (t.take i)).length)+1<=i+1:=by
      have:=an;rw[DN]at this;exact this
     simp;omega
    ·rw[iV,LJ,if_neg cp,K0 (key:=bx) acg]
    ·unfold q4 sV;simp only[a7,am,az,aM,du];rw[FP true _ (by omega),if_neg cp])
  (fun s ta=>by
   obtain ⟨d,o⟩:=s;obtain ⟨an,aK,OB⟩:=ta;have an:o.length<=t.length+1:=an;have a7: ¬((t.length:Int)<(t.length:Int)):=by omega
   refine ⟨.inl (d,p,o,()),⟨d,o,rfl,an,?_⟩,?_⟩
   ·cases d with
    |true=>
     have e:=(OB rfl).1;rw[List.take_length]at e;exact e
    |false=>
     obtain ⟨e,eY⟩:=aK rfl;rw[List.take_length]at e eY;have e:o=t:=e;subst e;have hw:gU bx p.1 o=o:=by
      apply DW;rw[eB,List.any_eq_false];intro b ag;have:=js (eY b ag);simpa using this
     rw[hw,DM (key:=bx) eY];rfl
   ·unfold q4;simp only[a7,bg,aM,not_false_eq_true]) (false,[]) ⟨by simp,fun _=>by simp,by intro h;cases h⟩
 obtain ⟨d,o,rfl,an,he⟩:=ad;have aa:bN q4 (t,false,(0:Int),p,([]:List ak),())=some (.inl (d,p,o,())):=aa;unfold w4 Qz;simp only[aa];rw[<-he];cases d with
 |true=>simp
 |false=>
  have c3:(o.length+([p]:List ak).length)*40<=bm:=by rw[dV];simp;omega
  simp only[dm,az,c3,am,aM]
theorem aaO (l:List ah) (k:af) (ao:l.length<1000000000000):yp (l,k,())=some (l.any (fun s=>bX s k),()):=by
 obtain ⟨r,aa,ad⟩:=dY (b:=xe) (fun i (s:Unit)=>(l,k,(i:Int),())) l.length (fun i s=>(l.take i).any (fun s=>bX s k)=false)
  (fun r=>(r=.inl (true,())/\l.any (fun s=>bX s k)=true)\/(r=.inr ()/\l.any (fun s=>bX s k)=false)) (by omega)
  (fun i ab s ar=>by
   have a7:((i:Int)<(l.length:Int)):=by omega
   have aY:((0:Int)<=(i:Int)):=by omega
   have bH:List.getD l i (([]:af),(([]:af),()))=l[i]:=cq ab;have w:=fL i (by omega);unfold xe;simp only[a7,aY,am,az,b7,bQ,bH,w,L0];cases h:bX l[i] k
   ·left;refine ⟨(),?_,by simp⟩;rw[eV ab,List.any_append,ar];simp[h]
   ·right;refine ⟨.inl (true,()),.inl ⟨rfl,?_⟩,by simp⟩;rw[List.any_eq_true];exact ⟨l[i],List.getElem_mem ab,h⟩)
  (fun s ar=>by
   have a7: ¬((l.length:Int)<(l.length:Int)):=by omega
   rw[List.take_length]at ar;refine ⟨.inr (),.inr ⟨rfl,ar⟩,?_⟩;unfold xe;simp only[a7,bg,aM,not_false_eq_true]) () (by simp)
 have aa:bN xe (l,k,(0:Int),())=some r:=aa;unfold yp Km;rw[aa];rcases ad with ⟨rfl,he⟩|⟨rfl,he⟩
 ·rw[he]
 ·rw[he]
theorem Ky (t:List ak) (l:List ah) (aU:t.length<1000000000000) (ao:l.length<1000000000000):rb (t,l,())=some (t.filter (fun p=> !l.any (fun s=>bX s p.1)),()):=by
 obtain ⟨r,aa,ad⟩:=dY (b:=wu) (fun i (o:List ak)=>(t,l,(i:Int),o,())) t.length (fun i o=>o=(t.take i).filter (fun p=> !l.any (fun s=>bX s p.1)))
  (fun r=>r=.inl (t.filter (fun p=> !l.any (fun s=>bX s p.1)),())) (by omega)
  (fun i ab o an=>by
   left;have a7:((i:Int)<(t.length:Int)):=by omega
   have aY:((0:Int)<=(i:Int)):=by omega
   have bH:List.getD t i (([]:af),(([]:af),((0:Int),())))=t[i]:=cq ab;have w:=fL i (by omega);have hlen:o.length<=i:=by
    rw[an];have aa:=List.length_filter_le (fun p:ak=> !l.any (fun s=>bX s p.1)) (t.take i);rw[List.length_take]at aa;omega
   have room:(o.length+([t[i]]:List ak).length)*40<=bm:=by rw[dV];simp;omega
   unfold wu;simp only[a7,aY,am,az,b7,bQ,bH,w,aaO l _ ao,room];rw[eV ab,List.filter_append,<-an];cases h:l.any (fun s=>bX s (t[i]).1)
   ·exact ⟨_,rfl,by simp[h]⟩
   ·exact ⟨_,rfl,by simp[h]⟩)
  (fun o an=>by
   have a7: ¬((t.length:Int)<(t.length:Int)):=by omega
   rw[List.take_length]at an;subst an;refine ⟨_,rfl,?_⟩;unfold wu;simp only[a7,bg,aM,not_false_eq_true]) [] (by simp)
 subst ad;have aa:bN wu (t,l,(0:Int),([]:List ak),())=_:=aa;unfold rb PZ;simp only[aa]
theorem aoR (t:List ak) (l:List ah) (aU:t.length<1000000000000) (ao:l.length<1000000000000):BB (t,l,())=some (t.filter (fun p=>l.any (fun s=>bX s p.1)),()):=by
 obtain ⟨r,aa,ad⟩:=dY (b:=wC) (fun i (o:List ak)=>(t,l,(i:Int),o,())) t.length (fun i o=>o=(t.take i).filter (fun p=>l.any (fun s=>bX s p.1)))
  (fun r=>r=.inl (t.filter (fun p=>l.any (fun s=>bX s p.1)),())) (by omega)
  (fun i ab o an=>by
   left;have a7:((i:Int)<(t.length:Int)):=by omega
   have aY:((0:Int)<=(i:Int)):=by omega
   have bH:List.getD t i (([]:af),(([]:af),((0:Int),())))=t[i]:=cq ab;have w:=fL i (by omega);have hlen:o.length<=i:=by
    rw[an];have aa:=List.length_filter_le (fun p:ak=>l.any (fun s=>bX s p.1)) (t.take i);rw[List.length_take]at aa;omega
   have room:(o.length+([t[i]]:List ak).length)*40<=bm:=by rw[dV];simp;omega
   unfold wC;simp only[a7,aY,am,az,b7,bQ,bH,w,aaO l _ ao,room];rw[eV ab,List.filter_append,<-an];cases h:l.any (fun s=>bX s (t[i]).1)
   ·exact ⟨_,rfl,by simp[h]⟩
   ·exact ⟨_,rfl,by simp[h]⟩)
  (fun o an=>by
   have a7: ¬((t.length:Int)<(t.length:Int)):=by omega
   rw[List.take_length]at an;subst an;refine ⟨_,rfl,?_⟩;unfold wC;simp only[a7,bg,aM,not_false_eq_true]) [] (by simp)
 subst ad;have aa:bN wC (t,l,(0:Int),([]:List ak),())=_:=aa;unfold BB QA;simp only[aa]
structure oZ (p:af):Prop where
 pre:kT (p,())=some (c2 p,())
 pre2:mb (p,())=some (c2 p,())
 sh:p=[]\/p=p.dropLast++[47]
theorem Dy {p:af} (h:p∈six):oZ p:=⟨(jr p h).1,(jr p h).2.1,(jr p h).2.2⟩
theorem iE {k p:af}:bI k p=true↔ ∃r,k=p++r:=by
 unfold bI;rw[bB,dd,dd];constructor
 ·rintro ⟨_,h⟩;exact ⟨k.drop p.length,by conv=>lhs;rw[<-List.take_append_drop p.length k,h]⟩
 ·rintro ⟨r,rfl⟩;simp
theorem yE (p r:af):bI (p++r) p=true:=iE.2 ⟨r,rfl⟩
theorem age {k p q:af} (aa:bI k p=true) (ad:bI k q=true):bI p q=true\/bI q p=true:=by
 obtain ⟨r,rfl⟩:=iE.1 aa;obtain ⟨s,e⟩:=iE.1 ad;rcases List.append_eq_append_iff.1 e with ⟨a,al,aE⟩|⟨a,al,aE⟩
 ·right;exact iE.2 ⟨a,al⟩
 ·left;exact iE.2 ⟨a,al⟩
theorem l4 (p a b:af):Op.bytesLess (p++a) (p++b)=Op.bytesLess a b:=by
 induction p with
 |nil=>rfl
 |cons x p aO=>simp[Op.bytesLess,aO]
def eL (f t k:af):af:=t++k.drop f.length
theorem jW (f t r:af):eL f t (f++r)=t++r:=by simp[eL]
theorem apw (k f t:af) (h:t.length+k.length<1000000000000):CY (k,f,t,())=some (bif bI k f then (eL f t k,true,()) else ([],false,())):=by
 unfold CY;simp only[DB];cases ag:bI k f
 ·simp
 ·have hle:f.length<=k.length:=by
   obtain ⟨r,rfl⟩:=iE.1 ag;simp
  have a7:((0:Int)<=(f.length:Int)):=by omega
  have aY:((f.length:Int)<=(k.length:Int)):=by omega
  have c3:t.length+(List.drop f.length k).length<=bm:=by rw[dV,List.length_drop];omega
  simp only[du,aM,az,a7,aY,Int.le_refl,am,b7,bQ,List.take_length,c3];rfl
theorem apl (k p:af):tf (k,p,())=some (bI k p,()):=by
 have:=DB k p;unfold rk at this;unfold tf o5;simp only[this]
theorem Dn (k f t:af) (h:t.length+k.length<1000000000000):rC (k,f,t,())=some (bif bI k f then (eL f t k,true,()) else ([],false,())):=by
 have aP:o5 (k,f,())=some (bI k f,()):=by
  have:=DB k f;unfold rk at this;unfold o5;exact this
 unfold rC qr OX;simp only[aP];cases ag:bI k f
 ·simp
 ·have hle:f.length<=k.length:=by
   obtain ⟨r,rfl⟩:=iE.1 ag;simp
  have a7:((0:Int)<=(f.length:Int)):=by omega
  have aY:((f.length:Int)<=(k.length:Int)):=by omega
  have c3:t.length+(List.drop f.length k).length<=bm:=by rw[dV,List.length_drop];omega
  simp only[du,aM,az,a7,aY,Int.le_refl,am,b7,bQ,List.take_length,c3];rfl
def je (acc:List ak) (p:ak):List ak:=gw bx p (gU bx p.1 acc)
def iF (base l:List ak):List ak:=l.foldl je base
def gr (f t:af) (p:ak):ak:=(eL f t p.1,p.2.1,p.2.2.1,())
theorem aoa (base l:List ak) (p:ak):iF base (l++[p])=je (iF base l) p:=by simp[iF]
theorem aaa (acc:List ak) (p:ak):(je acc p).length<=acc.length+1:=by
 unfold je;have:=ahP (key:=bx) (k:=p.1) acc;rw[DN];omega
theorem C3: ∀(l base:List ak),(iF base l).length<=base.length+l.length
 |[],base=>by simp[iF]
 |p::l,base=>by
  have aa:=C3 l (je base p);have ad:=aaa base p;show (iF (je base p) l).length<=_;simp;omega
theorem B8: ∀(l base:List ak),ck bx base->ck bx (iF base l)
 |[],base,h=>h
 |p::l,base,h=>B8 l (je base p) (ck.ins h.wo (aau _ _))
def FO (m:a6):Prop:=m.1=4\/m.1=5
def ia (m:a6) (t:List ak):List ak:=
 bif decide (m.1=4) then (t.filter fun x=> !bI x.1 m.2.2.2.2.2.1).filter fun x=> !bI x.1 m.2.2.2.2.1 else t.filter fun x=> !bI x.1 m.2.2.2.2.2.1
def gf (m:a6) (t:List ak):List ak:=t.filter fun x=>bI x.1 m.2.2.2.2.1
theorem R6 (t:List ak) (p:af) (aP:oZ p) (ao:t.length<1000000000000):rb (t,[c2 p],())=some (t.filter (fun x=> !bI x.1 p),()):=by
 rw[Ky t _ ao (by simp)];congr 2;apply List.filter_congr;intro x aw;simp only[List.any_cons,List.any_nil,Bool.or_false,uK aP.sh]
theorem a20 (t:List ak) (p:af) (aP:oZ p) (ao:t.length<1000000000000):BB (t,[c2 p],())=some (t.filter (fun x=>bI x.1 p),()):=by
 rw[aoR t _ ao (by simp)];congr 2;apply List.filter_congr;intro x aw;simp only[List.any_cons,List.any_nil,Bool.or_false,uK aP.sh]
theorem W7 (m:a6) (base src:List ak) (ag:ck bx base) (awi:base.length<100000000000) (Aq:src.length<100000000000) (ha: ∀p∈src,bI p.1 m.2.2.2.2.1=true/\m.2.2.2.2.2.1.length+p.1.length<1000000000000):
  GU ((0:Int),m,base,src,())=some (.inl (iF base (src.map (gr m.2.2.2.2.1 m.2.2.2.2.2.1)),())):=by
 obtain ⟨r,aa,ad⟩:=dY (b:=rc) (fun i (o:List ak)=>((i:Int),m,o,src,())) src.length (fun i o=>o=iF base ((src.take i).map (gr m.2.2.2.2.1 m.2.2.2.2.2.1)))
  (fun r=>r=.inl (iF base (src.map (gr m.2.2.2.2.1 m.2.2.2.2.2.1)),())) (by omega)
  (fun i ab o an=>by
   left;have a7:((i:Int)<(src.length:Int)):=by omega
   have aY:((0:Int)<=(i:Int)):=by omega
   have bH:List.getD src i (([]:af),(([]:af),((0:Int),())))=src[i]:=cq ab;have w:=fL i (by omega);obtain ⟨ai,aq⟩:=ha _ (List.getElem_mem ab);have hlen:=C3 ((src.take i).map (gr m.2.2.2.2.1 m.2.2.2.2.2.1)) base;rw[List.length_map,List.length_take]at hlen;have Ov:ck bx o:=by rw[an];exact B8 _ _ ag
   have mI:o.length<1000000000000:=by rw[an];omega
   have hm:=apw (src[i]).1 m.2.2.2.2.1 m.2.2.2.2.2.1 aq;rw[ai,az]at hm;have e0:=Yy o (gr m.2.2.2.2.1 m.2.2.2.2.2.1 src[i]) Ov mI;have e0:w4 (o,(eL m.2.2.2.2.1 m.2.2.2.2.2.1 (src[i]).1,(src[i]).2.1,(src[i]).2.2.1,()),())=some (je o (gr m.2.2.2.2.1 m.2.2.2.2.2.1 src[i]),()):=e0;refine ⟨_,rfl,?_⟩;rw[eV ab,List.map_append,List.map_singleton,aoa,<-an];unfold rc;simp only[a7,aY,am,az,b7,bQ,bH,w,hm,e0])
  (fun o an=>by
   have a7: ¬((src.length:Int)<(src.length:Int)):=by omega
   rw[List.take_length]at an;subst an;refine ⟨_,rfl,?_⟩;unfold rc;simp only[a7,bg,aM,not_false_eq_true]) base (by simp[iF])
 subst ad;exact aa
theorem aol (t:List ak) (m:a6) (hm:FO m) (aK:oZ m.2.2.2.2.1) (aU:oZ m.2.2.2.2.2.1) (ar:ck bx t) (ao:t.length<100000000000) (av: ∀p∈t,m.2.2.2.2.2.1.length+p.1.length<1000000000000):
  pN (t,m,())=some (iF (ia m t) ((gf m t).map (gr m.2.2.2.2.1 m.2.2.2.2.2.1)),()):=by
 have cC:decide (m.1=1)=false:=bg (by rcases hm with h |h<;>rw[h]<;>decide);have dk:decide (m.1=2)=false:=bg (by rcases hm with h |h<;>rw[h]<;>decide);have n3:decide (m.1=3)=false:=bg (by rcases hm with h |h<;>rw[h]<;>decide);have n6:decide (m.1=6)=false:=bg (by rcases hm with h |h<;>rw[h]<;>decide);have de:=List.length_filter_le (fun x:ak=> !bI x.1 m.2.2.2.2.2.1) t;have cP:=List.length_filter_le (fun x:ak=>bI x.1 m.2.2.2.2.1) t;have nB:=List.length_filter_le (fun x:ak=> !bI x.1 m.2.2.2.2.1) (t.filter fun x=> !bI x.1 m.2.2.2.2.2.1);have ha: ∀p∈gf m t,bI p.1 m.2.2.2.2.1=true/\m.2.2.2.2.2.1.length+p.1.length<1000000000000:=fun p aP=>⟨(List.mem_filter.1 aP).2,av p (List.mem_filter.1 aP).1⟩
 have Aq:(gf m t).length<100000000000:=by unfold gf;omega
 unfold pN;simp only[cC,dk,n3,n6,aM,aK.pre2,aU.pre2,R6 t _ aU (by omega),a20 t _ aK (by omega)];cases aE:decide (m.1=4)
 ·have sX:ia m t=t.filter fun x=> !bI x.1 m.2.2.2.2.2.1:=by unfold ia;rw[aE];rfl
  have:=W7 m (ia m t) (gf m t) (by rw[sX];exact List.Pairwise.filter _ ar) (by rw[sX];omega) Aq ha;rw[sX]at this ⊢;unfold gf at this ⊢;simp only[aM,this]
 ·have sX:ia m t=(t.filter fun x=> !bI x.1 m.2.2.2.2.2.1).filter fun x=> !bI x.1 m.2.2.2.2.1:=by unfold ia;rw[aE];rfl
  have:=W7 m (ia m t) (gf m t) (by rw[sX];exact List.Pairwise.filter _ (List.Pairwise.filter _ ar)) (by rw[sX];omega) Aq ha;rw[sX]at this ⊢;unfold gf at this ⊢;simp only[az,R6 _ _ aK (show (t.filter fun x=> !bI x.1 m.2.2.2.2.2.1).length<1000000000000 by omega),this]
theorem apj {k:af} {p:ak} {l:List ak} (aa:p.1≠k) (ad:eB (key:=bx) k l=false):eB (key:=bx) k (gw bx p l)=false:=by
 unfold eB at ad ⊢;rw[List.any_eq_false]at ad ⊢;intro b ag;rcases yu.1 ag with rfl |ag
 ·simpa using aa
 ·exact ad b ag
structure r0 (m:a6):Prop where
 kind:FO m
 from_:m.2.2.2.2.1∈eD
 to_:m.2.2.2.2.2.1∈eD
 ap1:bI m.2.2.2.2.1 m.2.2.2.2.2.1=false
 ap2:bI m.2.2.2.2.2.1 m.2.2.2.2.1=false
theorem r0.not_both {m:a6} (h:r0 m) {k:af} (aa:bI k m.2.2.2.2.1=true):bI k m.2.2.2.2.2.1=false:=by
 cases ad:bI k m.2.2.2.2.2.1
 ·rfl
 ·rcases age aa ad with al |al
  ·rw[h.ap1]at al;cases al
  ·rw[h.ap2]at al;cases al
theorem r0.not_both2 {m:a6} (h:r0 m) {k:af} (aa:bI k m.2.2.2.2.2.1=true):bI k m.2.2.2.2.1=false:=by
 cases ad:bI k m.2.2.2.2.1
 ·rfl
 ·rw[h.not_both ad]at aa;cases aa
def oY (m:a6) (t:List ak):List ak:=iF (ia m t) ((gf m t).map (gr m.2.2.2.2.1 m.2.2.2.2.2.1))
theorem ao0 {m:a6} {t:List ak} {x:ak} (h:x∈ia m t):x∈t/\bI x.1 m.2.2.2.2.2.1=false:=by
 unfold ia at h;cases av:decide (m.1=4)
 ·rw[av]at h;have:=List.mem_filter.1 h;exact ⟨this.1,by simpa using this.2⟩
 ·rw[av]at h;have:=List.mem_filter.1 (List.mem_filter.1 h).1;exact ⟨this.1,by simpa using this.2⟩
theorem ao1 {m:a6} {t:List ak} (h:ck bx t):ck bx (ia m t):=by
 unfold ia;cases decide (m.1=4)
 ·exact List.Pairwise.filter _ h
 ·exact List.Pairwise.filter _ (List.Pairwise.filter _ h)
theorem aoZ (m:a6) (t:List ak):(ia m t).length<=t.length:=by
 unfold ia;cases decide (m.1=4)
 ·exact List.length_filter_le _ _
 ·exact Nat.le_trans (List.length_filter_le _ _) (List.length_filter_le _ _)
theorem sD {f t k:af}:bI (eL f t k) t=true:=iE.2 ⟨_,rfl⟩
theorem Zp {m:a6} {t:List ak}: ∀p∈(gf m t).map (gr m.2.2.2.2.1 m.2.2.2.2.2.1),eB (key:=bx) p.1 (ia m t)=false:=by
 intro p aP;obtain ⟨q,aN,rfl⟩:=List.mem_map.1 aP;unfold eB;rw[List.any_eq_false];intro b ag;have aa:=(ao0 ag).2;intro e;have e:b.1=eL m.2.2.2.2.1 m.2.2.2.2.2.1 q.1:=of_decide_eq_true e;rw[e,sD]at aa;cases aa
theorem DK {m:a6} {t:List ak} (ar:ck bx t):((gf m t).map (gr m.2.2.2.2.1 m.2.2.2.2.2.1)).Pairwise (fun a b=>a.1≠b.1):=by
 rw[List.pairwise_map];have h:ck bx (gf m t):=List.Pairwise.filter _ ar;refine List.Pairwise.imp_of_mem (fun {a b} aR ag fg=> ?_) h;obtain ⟨r,aA⟩:=iE.1 (List.mem_filter.1 aR).2;obtain ⟨s,ar⟩:=iE.1 (List.mem_filter.1 ag).2;show eL _ _ a.1≠eL _ _ b.1;rw[aA,ar,jW,jW];intro e;have e:=List.append_cancel_left e;have fg:Op.bytesLess a.1 b.1=true:=fg;rw[aA,ar,e,gN]at fg;cases fg
theorem aao {m:a6} {t:List ak} (ar:ck bx t):ck bx (oY m t):=B8 _ _ (ao1 ar)
theorem af9 (m:a6) (t:List ak):(oY m t).length<=2*t.length:=by
 have aa:=C3 ((gf m t).map (gr m.2.2.2.2.1 m.2.2.2.2.2.1)) (ia m t);have ad:=aoZ m t;have al:(gf m t).length<=t.length:=List.length_filter_le _ _;rw[List.length_map]at aa;unfold oY;omega
theorem DC (t:List ak) (h:t.length<1000000000000):sO (t,())=some (t,()):=by
 unfold sO;have:(List.length ([]:List ak)+t.length)*40<=bm:=by rw[dV];simp;omega
 simp only[this,am,az]
theorem ahl (t:List ak) (p:ak) (ar:ck bx t) (ao:t.length<1000000000000):DA (t,p,())=some (je t p,()):=by
 have hle:=mY (key:=bx) p.1 t;unfold DA je;simp only[DU t p.1 ar (by omega),DC t ao];cases bC:eB (key:=bx) p.1 t
 ·have ar3:Ff ((cD bx p.1 t:Int),t,[p],())=some ([p],gw bx p t,()):=by
   unfold Ff y5;have a7:((0:Int)<=(cD bx p.1 t:Int)):=by omega
   have aY:((cD bx p.1 t:Int)<=(t.length:Int)):=by omega
   have c3:([p]:List ak).length=1:=rfl;have fe:t.length+1<1000000000000000000:=by omega
   have oe:(t.length+1)*40<=bm:=by rw[dV];omega
   simp only[a7,aY,c3,fe,oe,am,b7,az,bQ];rw[aaP t ar bC]
  simp only[aM,ar3];rw[DW _ _ bC]
 ·have bb:cD bx p.1 t<t.length:=by
   rcases Nat.lt_or_ge (cD bx p.1 t) t.length with h |h
   ·exact h
   ·rw[yt p.1 t (by omega)]at bC;cases bC
  have a7:((0:Int)<=(cD bx p.1 t:Int)):=by omega
  have aY:((cD bx p.1 t:Int)<(t.length:Int)):=by omega
  simp only[az,a7,aY,am,b7,bQ];rw[R4 t ar bC]
theorem ag5 (n:Nat) (h:n<1000000000000):Fj ((n:Int),())=some (([]:List ak),()):=by
 unfold Fj;have gy:i64.wrap ((0:Int)-0)=0:=by decide
 have cV:i64.wrap ((n:Int)-0)=(n:Int):=by rw[cU (by omega)];omega
 have a7: ¬((n:Int)<0):=by omega
 simp only[gy,cV,bg a7,aM];by_cases aQ:n=0
 ·subst aQ;have: ¬(((0:Nat):Int)>0):=by decide
  simp only[bg this,aM]
 ·have aY:((n:Int)>0):=by omega
  have c3:((0:Int)<(n:Int)):=by omega
  have fe:((n:Int)*40<=(bm:Int)):=by rw[dV];omega
  have c5:((0:Int)<=((List.replicate (Int.toNat (n:Int)) (([]:af),(([]:af),((0:Int),())))).length:Int)):=by omega
  simp only[aY,c3,fe,c5,am,b7,az,List.take_zero]
theorem Zz (a b:List ak) (h:a.length+b.length<1000000000000):Fe ([a,b],())=some (a++b,()):=by
 have cV:i64.wrap ((0:Int)+(a.length:Int))=(a.length:Int):=by rw[cU (by omega)];omega
 have c9:i64.wrap ((a.length:Int)+(b.length:Int))=((a.length+b.length:Nat):Int):=by rw[cU (by omega)];omega
 have fy:i64.wrap ((0:Int)+1)=1:=by decide
 have jv:i64.wrap ((1:Int)+1)=2:=by decide
 have cC: ¬((a.length:Int)<0):=by omega
 have dk: ¬(((a.length+b.length:Nat):Int)<0):=by omega
 have cP:(([a,b]:List (List ak)).length:Int)=2:=rfl;have g0:List.getD [a,b] (Int.toNat 0) ([]:List ak)=a:=rfl;have g1:List.getD [a,b] (Int.toNat 1) ([]:List ak)=b:=rfl;have aa3:decide ((0:Int)<2)=true:=by decide
 have d12:decide ((1:Int)<2)=true:=by decide
 have d22:decide ((2:Int)<2)=false:=by decide
 have aa1:decide ((0:Int)<=0)=true:=by decide
 have aa2:decide ((0:Int)<=1)=true:=by decide
 have im:oQ ([a,b],(0:Int),[a,b],(2:Int),(0:Int),())=some (.inl ([a,b],(a.length:Int),[a,b],(2:Int),(1:Int),())):=by
  unfold oQ;simp only[cP,g0,aa3,aa1,az,aM,b7,cV,fy,bg cC]
 have s1:oQ ([a,b],(a.length:Int),[a,b],(2:Int),(1:Int),())=some (.inl ([a,b],((a.length+b.length:Nat):Int),[a,b],(2:Int),(2:Int),())):=by
  unfold oQ;simp only[cP,g1,d12,aa2,az,aM,b7,c9,jv,bg dk]
 have s2:oQ ([a,b],((a.length+b.length:Nat):Int),[a,b],(2:Int),(2:Int),())=some (.inr (.inl ([a,b],((a.length+b.length:Nat):Int),()))):=by
  unfold oQ;simp only[d22,aM]
 have aa:bN oQ ([a,b],(0:Int),[a,b],(2:Int),(0:Int),())=some (.inl ([a,b],((a.length+b.length:Nat):Int),())):=lB (n:=3) (by rw[jV];omega) (by simp only[dR,im,s1,s2]);have au:(([]:List ak).length+a.length)*40<=bm:=by rw[dV];simp;omega
 have aL:(([]++a:List ak).length+b.length)*40<=bm:=by rw[dV];simp;omega
 have avc:oR ([a,b],(2:Int),(0:Int),([]:List ak),())=some (.inl ([a,b],(2:Int),(1:Int),[]++a,())):=by
  unfold oR;simp only[cP,g0,aa3,aa1,az,b7,fy,au,am]
 have oC:oR ([a,b],(2:Int),(1:Int),[]++a,())=some (.inl ([a,b],(2:Int),(2:Int),[]++a++b,())):=by
  unfold oR;simp only[cP,g1,d12,aa2,az,b7,jv,aL,am]
 have oD:oR ([a,b],(2:Int),(2:Int),[]++a++b,())=some (.inr (.inl ([]++a++b,()))):=by
  unfold oR;simp only[d22,aM]
 have ad:bN oR ([a,b],(2:Int),(0:Int),([]:List ak),())=some (.inl ([]++a++b,())):=lB (n:=3) (by rw[jV];omega) (by simp only[dR,avc,oC,oD]);unfold Fe Nt Nx;simp only[cP,aa,ag5 _ h,ad,List.nil_append]
section
variable {α:Type} {key:α->af}
theorem ahJ {lo ab:af} (h:Op.bytesLess lo ab=true) (l:List α) (ar:ck key l):l.take (cD key lo l)++l.drop (cD key ab l)=l.filter fun a=> !(!Op.bytesLess (key a) lo&&Op.bytesLess (key a) ab):=by
 have e:l=l.take (cD key ab l)++l.drop (cD key ab l):=(List.take_append_drop _ _).symm;have hle:=yU h l ar
 conv=>rhs;rw[e]
 rw[List.filter_append];have ai:(l.drop (cD key ab l)).filter (fun a=> !(!Op.bytesLess (key a) lo&&Op.bytesLess (key a) ab))=l.drop (cD key ab l):=by
  rw[List.filter_eq_self];intro a aR;rw[D4 ab l ar]at aR;have:=(List.mem_filter.1 aR).2;have:Op.bytesLess (key a) ab=false:=by simpa using this
  rw[this];simp
 have aq:(l.take (cD key ab l)).filter (fun a=> !(!Op.bytesLess (key a) lo&&Op.bytesLess (key a) ab))=l.take (cD key lo l):=by
  rw[yK ab l ar,List.filter_filter,yK lo l ar];apply List.filter_congr;intro a _;cases aa:Op.bytesLess (key a) lo
  ·cases Op.bytesLess (key a) ab<;>rfl
  ·rw[e6 aa h];rfl
 rw[ai,aq]
end
theorem Lm (t:List ak) (s:ah) (h:mV s) (ar:ck bx t) (ao:t.length<1000000000000):rD (t,s,())=some (t.filter (fun p=> !bX s p.1),()):=by
 have aa:=mY (key:=bx) s.1 t;have ad:=mY (key:=bx) s.2.1 t;unfold rD BJ;simp only[Z0 s h,aM,DU t _ ar (show t.length<10000000000000 by omega)];have a7:((0:Int)<=(cD bx s.1 t:Int)):=by omega
 have aY:((cD bx s.1 t:Int)<=(t.length:Int)):=by omega
 by_cases aQ:s.2.1=[]
 ·have c:decide ((s.2.1:af)=[])=true:=am aQ;have c3:((0:Int)<=(t.length:Int)):=by omega
  have ax:List.drop t.length t=[]:=List.drop_length;simp only[c,du,aM,a7,aY,c3,am,b7,az,Int.le_refl,bQ,List.take_length,List.drop_zero,ax];rw[Zz _ _ (by simp;omega)];simp only[List.append_nil];rw[yK s.1 t ar];congr 2;apply List.filter_congr;intro p _;unfold bX;simp[aQ,bx]
 ·have bb:=h.resolve_left aQ;have c:decide ((s.2.1:af)=[])=false:=bg aQ;have c3:((0:Int)<=(cD bx s.2.1 t:Int)):=by omega
  have fe:((cD bx s.2.1 t:Int)<=(t.length:Int)):=by omega
  simp only[c,dm,az,a7,aY,c3,fe,am,b7,Int.le_refl,bQ,List.take_length,List.drop_zero];rw[Zz _ _ (by have:=yU (key:=bx) bb t ar;rw[List.length_take,List.length_drop];omega),ahJ bb t ar];dsimp only;congr 2;apply List.filter_congr;intro p _;unfold bX;simp[aQ,bx]
theorem Ef: ∀{a b:List ak},ck bx a->ck bx b->(∀x,x∈a↔x∈b)->a=b
 |[],[],_,_,_=>rfl
 |[],y::b,_,_,h=>by have:=(h y).2 List.mem_cons_self;cases this
 |x::a,[],_,_,h=>by have:=(h x).1 List.mem_cons_self;cases this
 |x::a,y::b,aR,ag,h=>by
  have q3:x=y:=by
   rcases List.mem_cons.1 ((h x).1 List.mem_cons_self) with e |e
   ·exact e
   ·rcases List.mem_cons.1 ((h y).2 List.mem_cons_self) with aq |aq
    ·exact aq.symm
    ·have aa:=ag.head x e;have ad:=aR.head y aq;have:=e6 aa ad;rw[gN]at this;cases this
  subst q3;congr 1;refine Ef aR.tail ag.tail (fun z=> ?_);have bA:=h z;constructor
  ·intro FM;rcases List.mem_cons.1 (bA.1 (List.mem_cons_of_mem _ FM)) with e |e
   ·subst e;have:=aR.head z FM;rw[gN]at this;cases this
   ·exact e
  ·intro vY;rcases List.mem_cons.1 (bA.2 (List.mem_cons_of_mem _ vY)) with e |e
   ·subst e;have:=ag.head z vY;rw[gN]at this;cases this
   ·exact e
theorem agr {acc:List ak} {p x:ak}:x∈je acc p↔x=p\/(x∈acc/\x.1≠p.1):=by
 unfold je;rw[yu];constructor
 ·rintro (h |h)
  ·exact .inl h
  ·have:=List.mem_filter.1 h;exact .inr ⟨this.1,by simpa using this.2⟩
 ·rintro (h |⟨aa,ad⟩)
  ·exact .inl h
  ·exact .inr (List.mem_filter.2 ⟨aa,by simpa using ad⟩)
theorem A6: ∀{l base:List ak},(∀p∈l,eB (key:=bx) p.1 base=false)->l.Pairwise (fun a b=>a.1≠b.1)-> ∀x,x∈iF base l↔x∈base\/x∈l
 |[],base,_,_,x=>by simp[iF]
 |p::l,base,aa,ad,x=>by
  have hw:gU bx p.1 base=base:=DW _ _ (aa p List.mem_cons_self);have aP:je base p=gw bx p base:=by unfold je;rw[hw]
  have al:=List.pairwise_cons.1 ad;have aO:=A6 (l:=l) (base:=je base p) (fun q aN=>by
   rw[aP];exact apj (al.1 q aN) (aa q (List.mem_cons_of_mem _ aN))) al.2 x
  show x∈iF (je base p) l↔_;rw[aO,aP,yu,List.mem_cons];constructor
  ·rintro ((h |h)|h)
   ·exact .inr (.inl h)
   ·exact .inl h
   ·exact .inr (.inr h)
  ·rintro (h |h |h)
   ·exact .inl (.inr h)
   ·exact .inl (.inl h)
   ·exact .inr h
theorem Dk {α:Type} {P Q:List α} {x d:α} {i:Nat} (h:P.length=i):List.getD (P++x::Q) i d=x:=by
 subst h;simp[List.getD]
theorem aal {out a b:List ak} {x y:ak} (aa:ck bx (out++x::a)) (ad:ck bx (out++y::b)) (bb:Op.bytesLess x.1 y.1=true):ck bx (out++[x]++y::b):=by
 unfold ck at aa ad ⊢;rw[List.pairwise_append]at aa ad;rw[List.append_assoc,List.pairwise_append];refine ⟨aa.1,?_,?_⟩
 ·show List.Pairwise _ (x::y::b);refine List.pairwise_cons.2 ⟨fun z bA=> ?_,ad.2.1⟩;rcases List.mem_cons.1 bA with rfl |bA
  ·exact bb
  ·exact e6 bb ((List.pairwise_cons.1 ad.2.1).1 z bA)
 ·intro u hu z bA;rcases List.mem_cons.1 bA with rfl |bA
  ·exact aa.2.2 u hu _ List.mem_cons_self
  ·exact ad.2.2 u hu z bA
theorem af7 (a b:List ak) (aR:ck bx a) (ag:ck bx b) (ax: ∀p∈a,∀q∈b,p.1≠q.1) (ao:a.length+b.length<1000000000000):
  ∃r,CU (a,b,())=some (r,())/\ck bx r/\ ∀x,x∈r↔x∈a\/x∈b:=by
 obtain ⟨r,aa,ad⟩:=yh (b:=wN) (fun s=>s.1.length+s.2.1.length)
  (fun s=> ∃bd bK out:List ak,s=(bd,bK,out,())/\ck bx (out++bd)/\ck bx (out++bK)/\(∀p∈bd,∀q∈bK,p.1≠q.1)/\(∀x,(x∈out\/x∈bd\/x∈bK)↔x∈a\/x∈b)/\out.length+bd.length+bK.length=a.length+b.length)
  (fun r=> ∃bd bK out:List ak,r=.inl (bd,bK,out,())/\ck bx (out++bd++bK)/\(∀x,(x∈out\/x∈bd\/x∈bK)↔x∈a\/x∈b)/\out.length+bd.length+bK.length=a.length+b.length)
  (fun s ar=>by
   obtain ⟨bd,bK,out,rfl,s1,s2,jM,hm,hlen⟩:=ar;cases bd with
   |nil=>
    right;refine ⟨.inl ([],bK,out,()),?_,[],bK,out,rfl,by simpa using s2,hm,hlen⟩;unfold wN AT;have:decide ((([]:List ak).length:Int)=0)=true:=by decide
    simp only[this,du,aM,az]
   |cons x bd=>
    cases bK with
    |nil=>
     right;refine ⟨.inl (x::bd,[],out,()),?_,x::bd,[],out,rfl,by simpa using s1,hm,hlen⟩;unfold wN AT;have d1:decide (((x::bd).length:Int)=0)=false:=bg (by simp;omega);have d2:decide ((([]:List ak).length:Int)=0)=true:=by decide
     simp only[d1,d2,dm,az]
    |cons y bK=>
     left;have d1:decide (((x::bd).length:Int)=0)=false:=bg (by simp;omega);have d2:decide (((y::bK).length:Int)=0)=false:=bg (by simp;omega);have d3:((0:Int)<((x::bd).length:Int)):=by simp
     have d4:((0:Int)<((y::bK).length:Int)):=by simp
     have d5:((1:Int)<=((x::bd).length:Int)):=by simp;omega
     have d6:((1:Int)<=((y::bK).length:Int)):=by simp;omega
     have g1:List.getD (x::bd) 0 (([]:af),(([]:af),((0:Int),())))=x:=rfl;have g2:List.getD (y::bK) 0 (([]:af),(([]:af),((0:Int),())))=y:=rfl;have ai:List.drop (Int.toNat 1) (x::bd)=bd:=rfl;have aq:List.drop (Int.toNat 1) (y::bK)=bK:=rfl;have awt:out.length<1000000000000:=by simp at hlen;omega
     have room: ∀q:ak,(out.length+([q]:List ak).length)*40<=bm:=fun q=>by rw[dV];simp;omega
     have cp:x.1≠y.1:=jM x List.mem_cons_self y List.mem_cons_self;unfold wN AT;simp only[d1,d2,dm,az,aM,d3,d4,d5,am,g1,g2,room,Int.le_refl,b7,bQ,List.take_length,ai];cases bb:Op.bytesLess x.1 y.1
     ·have oa:Op.bytesLess y.1 x.1=true:=by
       rcases hi x.1 y.1 with h |h |h
       ·rw[h]at bb;cases bb
       ·exact absurd h cp
       ·exact h
      unfold PR;simp only[bg cp,aM,d4,d6,am,az,g2,room,Int.le_refl,b7,bQ,List.take_length,aq];refine ⟨_,rfl,⟨x::bd,bK,out++[y],rfl,aal s2 s1 oa,by simpa using s2,fun p aP q aN=>jM p aP q (List.mem_cons_of_mem _ aN),fun z=> ?_,by simp at hlen ⊢;omega⟩,by simp⟩;rw[<-hm z];simp only[List.mem_append,List.mem_cons,List.mem_nil_iff,or_false];constructor
      ·rintro ((h |h)|(h |h)|h)<;>simp[h]
      ·rintro (h |(h |h)|(h |h))<;>simp[h]
     ·simp only[az];refine ⟨_,rfl,⟨bd,y::bK,out++[x],rfl,by simpa using s1,aal s1 s2 bb,fun p aP q aN=>jM p (List.mem_cons_of_mem _ aP) q aN,fun z=> ?_,by simp at hlen ⊢;omega⟩,by simp⟩;rw[<-hm z];simp only[List.mem_append,List.mem_cons,List.mem_nil_iff,or_false];constructor
      ·rintro ((h |h)|h |(h |h))<;>simp[h]
      ·rintro (h |(h |h)|(h |h))<;>simp[h])
  (a,b,[],()) ⟨a,b,[],rfl,by simpa using aR,by simpa using ag,ax,by intro x;simp,by simp⟩ (by simp;omega)
 obtain ⟨bd,bK,out,rfl,ar,hm,hlen⟩:=ad;have w:i64.wrap ((a.length:Int)+(b.length:Int))=((a.length+b.length:Nat):Int):=by rw[cU (by omega)];omega
 have a7:((0:Int)<=((a.length+b.length:Nat):Int)):=by omega
 have aY:(((a.length+b.length:Nat):Int)*40<=(bm:Int)):=by rw[dV];omega
 have c3:(out.length+bd.length)*40<=bm:=by rw[dV];omega
 have fe:((out++bd).length+bK.length)*40<=bm:=by rw[dV,List.length_append];omega
 refine ⟨out++bd++bK,?_,ar,fun x=> ?_⟩
 ·unfold CU Ix;simp only[w,a7,aY,Int.le_refl,Nat.le_refl,cL,am,b7,az,List.replicate_zero,aa,c3,fe]
 ·rw[<-hm x];simp only[List.mem_append];constructor
  ·rintro ((h |h)|h)<;>simp[h]
  ·rintro (h |h |h)<;>simp[h]
theorem anZ (t:List ak) (f u:af) (aK:oZ f) (ar:ck bx t) (ao:t.length<1000000000000) (av: ∀p∈t,u.length+p.1.length<1000000000000):
  Dq (t,f,u,())=some ((t.filter fun x=>bI x.1 f).map (gr f u),()):=by
 have e:(t.filter fun x=>bX (c2 f) x.1)=t.filter fun x=>bI x.1 f:=by
  apply List.filter_congr;intro x _;exact uK aK.sh _
 have cP:=List.length_filter_le (fun x:ak=>bI x.1 f) t;have aci:=apF t (c2 f) (Mm aK.sh) ar (by omega);rw[e]at aci;have ha: ∀p∈t.filter (fun x=>bI x.1 f),bI p.1 f=true/\u.length+p.1.length<1000000000000:=fun p aP=>⟨(List.mem_filter.1 aP).2,av p (List.mem_filter.1 aP).1⟩
 generalize t.filter (fun x=>bI x.1 f)=src at*;obtain ⟨r,aa,ad⟩:=dY (b:=w2) (fun i (o:List ak)=>(f,u,(src.length:Int),(i:Int),o,())) src.length (fun i o=>o=(src.take i).map (gr f u)++src.drop i)
  (fun r=>r=.inl (src.map (gr f u),())) (by omega)
  (fun i ab o an=>by
   left;have ax:src.drop i=src[i]::src.drop (i+1):=List.drop_eq_getElem_cons ab;have hlen:((src.take i).map (gr f u)).length=i:=by rw[List.length_map,List.length_take];omega
   have mI:o.length=src.length:=by rw[an,List.length_append,hlen,List.length_drop];omega
   have a7:((i:Int)<(src.length:Int)):=by omega
   have aY:((0:Int)<=(i:Int)):=by omega
   have bH:List.getD o i (([]:af),(([]:af),((0:Int),())))=src[i]:=by
    rw[an,ax];exact Dk hlen
   have w:=fL i (by omega);obtain ⟨ai,aq⟩:=ha _ (List.getElem_mem ab);have hm:=Dn (src[i]).1 f u aq;rw[ai,az]at hm;refine ⟨_,rfl,?_⟩;have jR:o.set i (gr f u src[i])=(src.take (i+1)).map (gr f u)++src.drop (i+1):=by
    rw[an,ax,eV ab,List.map_append,List.append_assoc];rw[List.set_append_right _ _ (by omega),hlen,Nat.sub_self];rfl
   rw[<-jR];unfold w2;simp only[mI,a7,aY,am,az,b7,bQ,bH,w,hm];rfl)
  (fun o an=>by
   have a7: ¬((src.length:Int)<(src.length:Int)):=by omega
   rw[List.take_length,List.drop_length,List.append_nil]at an;subst an;refine ⟨_,rfl,?_⟩;unfold w2;simp only[a7,bg,aM,not_false_eq_true]) src (by simp)
 subst ad;have aa:bN w2 (f,u,(src.length:Int),(0:Int),src,())=_:=aa;unfold Dq Ka;simp only[aK.pre,aci,DC src (by omega),aa]
theorem ahc {m:a6} {t:List ak} (ar:ck bx t):ck bx ((gf m t).map (gr m.2.2.2.2.1 m.2.2.2.2.2.1)):=by
 unfold ck;rw[List.pairwise_map];have h:ck bx (gf m t):=List.Pairwise.filter _ ar;refine List.Pairwise.imp_of_mem (fun {a b} aR ag fg=> ?_) h;obtain ⟨r,aA⟩:=iE.1 (List.mem_filter.1 aR).2;obtain ⟨s,ar⟩:=iE.1 (List.mem_filter.1 ag).2;have fg:Op.bytesLess a.1 b.1=true:=fg;show Op.bytesLess (eL _ _ a.1) (eL _ _ b.1)=true;rw[aA,ar,l4]at fg;rw[aA,ar,jW,jW,l4];exact fg
theorem Yv (t:List ak) (p:af) (aP:oZ p) (ar:ck bx t) (ao:t.length<1000000000000):rD (t,c2 p,())=some (t.filter (fun x=> !bI x.1 p),()):=by
 rw[Lm t _ (Mm aP.sh) ar ao];congr 2;apply List.filter_congr;intro x _;rw[uK aP.sh]
theorem Zx (t:List ak) (m:a6) (aK:oZ m.2.2.2.2.1) (aU:oZ m.2.2.2.2.2.1) (ar:ck bx t) (ao:t.length<100000000000) (av: ∀p∈t,m.2.2.2.2.2.1.length+p.1.length<1000000000000):
  AW (m,t,())=some (iF (t.filter fun x=> !bI x.1 m.2.2.2.2.2.1) ((gf m t).map (gr m.2.2.2.2.1 m.2.2.2.2.2.1)),()):=by
 have de:=List.length_filter_le (fun x:ak=> !bI x.1 m.2.2.2.2.2.1) t;have cP:(gf m t).length<=t.length:=List.length_filter_le _ _;have dt: ∀p∈(gf m t).map (gr m.2.2.2.2.1 m.2.2.2.2.2.1),eB (key:=bx) p.1 (t.filter fun x=> !bI x.1 m.2.2.2.2.2.1)=false:=by
  intro p aP;obtain ⟨q,aN,rfl⟩:=List.mem_map.1 aP;unfold eB;rw[List.any_eq_false];intro b ag;have aa:=(List.mem_filter.1 ag).2;intro e;have e:b.1=eL m.2.2.2.2.1 m.2.2.2.2.2.1 q.1:=of_decide_eq_true e;rw[e,sD]at aa;cases aa
 have arG: ∀p∈t.filter (fun x=> !bI x.1 m.2.2.2.2.2.1),∀q∈(gf m t).map (gr m.2.2.2.2.1 m.2.2.2.2.2.1),p.1≠q.1:=by
  intro p aP q aN e;have:=dt q aN;unfold eB at this;rw[List.any_eq_false]at this;exact this p aP (decide_eq_true e)
 obtain ⟨r,ai,aq,bc⟩:=af7 (t.filter fun x=> !bI x.1 m.2.2.2.2.2.1) ((gf m t).map (gr m.2.2.2.2.1 m.2.2.2.2.2.1)) (List.Pairwise.filter _ ar) (ahc ar) arG (by rw[List.length_map];omega);have aA:r=iF (t.filter fun x=> !bI x.1 m.2.2.2.2.2.1) ((gf m t).map (gr m.2.2.2.2.1 m.2.2.2.2.2.1)):=
  Ef aq (B8 _ _ (List.Pairwise.filter _ ar)) (fun x=>by rw[bc x,A6 dt (DK ar)])
 have hm:=anZ t m.2.2.2.2.1 m.2.2.2.2.2.1 aK ar (by omega) av;unfold gf at ai;unfold AW;simp only[aU.pre,Yv t _ aU ar (by omega),hm,ai,aA]
theorem agu (t:List ak) (m:a6) (hm:r0 m) (aE:m.1=4) (ar:ck bx t) (ao:t.length<100000000000) (av: ∀p∈t,m.2.2.2.2.2.1.length+p.1.length<1000000000000):
  G5 (m,t,())=some (oY m t,()):=by
 have rz:=Dy (iR _ hm.from_);have tE:=Dy (iR _ hm.to_);have de:=List.length_filter_le (fun x:ak=> !bI x.1 m.2.2.2.2.2.1) t;have cP:(gf m t).length<=t.length:=List.length_filter_le _ _;have aB:=Zx t m rz tE ar ao av;have ag:ia m t=(t.filter fun x=> !bI x.1 m.2.2.2.2.2.1).filter fun x=> !bI x.1 m.2.2.2.2.1:=by unfold ia;rw[am aE];rfl
 have dt: ∀p∈(gf m t).map (gr m.2.2.2.2.1 m.2.2.2.2.2.1),eB (key:=bx) p.1 (t.filter fun x=> !bI x.1 m.2.2.2.2.2.1)=false:=by
  intro p aP;obtain ⟨q,aN,rfl⟩:=List.mem_map.1 aP;unfold eB;rw[List.any_eq_false];intro b ag;have aa:=(List.mem_filter.1 ag).2;intro e;have e:b.1=eL m.2.2.2.2.1 m.2.2.2.2.2.1 q.1:=of_decide_eq_true e;rw[e,sD]at aa;cases aa
 have ke:=B8 ((gf m t).map (gr m.2.2.2.2.1 m.2.2.2.2.2.1)) (t.filter fun x=> !bI x.1 m.2.2.2.2.2.1) (List.Pairwise.filter _ ar);have hlen:=C3 ((gf m t).map (gr m.2.2.2.2.1 m.2.2.2.2.2.1)) (t.filter fun x=> !bI x.1 m.2.2.2.2.2.1);rw[List.length_map]at hlen;have ax:=Yv (iF (t.filter fun x=> !bI x.1 m.2.2.2.2.2.1) ((gf m t).map (gr m.2.2.2.2.1 m.2.2.2.2.2.1))) m.2.2.2.2.1 rz ke (by omega);have he:(iF (t.filter fun x=> !bI x.1 m.2.2.2.2.2.1) ((gf m t).map (gr m.2.2.2.2.1 m.2.2.2.2.2.1))).filter (fun x=> !bI x.1 m.2.2.2.2.1)=oY m t:=by
  refine Ef (List.Pairwise.filter _ ke) (aao ar) (fun x=> ?_);unfold oY;rw[List.mem_filter,A6 dt (DK ar),A6 Zp (DK ar),ag];constructor
  ·rintro ⟨aa |aa,ad⟩
   ·exact Or.inl (List.mem_filter.2 ⟨aa,ad⟩)
   ·exact Or.inr aa
  ·rintro (h |aa)
   ·obtain ⟨aa,ad⟩:=List.mem_filter.1 h;exact ⟨Or.inl aa,ad⟩
   ·refine ⟨.inr aa,?_⟩;obtain ⟨q,aN,rfl⟩:=List.mem_map.1 aa;have:bI (eL m.2.2.2.2.1 m.2.2.2.2.2.1 q.1) m.2.2.2.2.1=false:=hm.not_both2 sD;show (!bI (eL m.2.2.2.2.1 m.2.2.2.2.2.1 q.1) m.2.2.2.2.1)=true;rw[this];rfl
 unfold G5;simp only[aB,rz.pre,ax,he]
def gS (m:a6) (p:ak):ak:=bif bX m.2.2.2.1 p.1 then (p.1,p.2.1,m.2.2.2.2.2.2.1,p.2.2.2) else p
theorem aqo (t:List ak) (m:a6) (ao:t.length<1000000000000):It ((0:Int),m,t,())=some (.inl (t.map (gS m),())):=by
 obtain ⟨r,aa,ad⟩:=dY (b:=Ba) (fun i (o:List ak)=>((i:Int),m,o,())) t.length (fun i o=>o=(t.take i).map (gS m)++t.drop i)
  (fun r=>r=.inl (t.map (gS m),())) (by omega)
  (fun i ab o an=>by
   left;have ax:t.drop i=t[i]::t.drop (i+1):=List.drop_eq_getElem_cons ab;have hlen:((t.take i).map (gS m)).length=i:=by rw[List.length_map,List.length_take];omega
   have mI:o.length=t.length:=by rw[an,List.length_append,hlen,List.length_drop];omega
   have a7:((i:Int)<(t.length:Int)):=by omega
   have aY:((0:Int)<=(i:Int)):=by omega
   have bH:List.getD o i (([]:af),(([]:af),((0:Int),())))=t[i]:=by
    rw[an,ax];exact Dk hlen
   have w:=fL i (by omega);have jR: ∀q,o.set i q=(t.take i).map (gS m)++q::t.drop (i+1):=by
    intro q;rw[an,ax,List.set_append_right _ _ (by omega),hlen,Nat.sub_self];rfl
   have fH:(t.take (i+1)).map (gS m)++t.drop (i+1)=(t.take i).map (gS m)++gS m t[i]::t.drop (i+1):=by
    rw[eV ab,List.map_append,List.append_assoc];rfl
   refine ⟨_,rfl,?_⟩;rw[fH];unfold Ba gS;simp only[mI,a7,aY,am,az,b7,bQ,bH,w,L0,jR];cases bC:bX m.2.2.2.1 (t[i]).1
   ·simp only[aM];rw[an,ax];rfl
   ·simp only[az];rfl)
  (fun o an=>by
   have mI:o.length=t.length:=by rw[an,List.length_append,List.length_map,List.length_take,List.length_drop];omega
   have a7: ¬((t.length:Int)<(t.length:Int)):=by omega
   rw[List.take_length,List.drop_length,List.append_nil]at an;subst an;refine ⟨_,rfl,?_⟩;unfold Ba;simp only[mI,a7,bg,aM,not_false_eq_true]) t (by simp)
 subst ad;exact aa
theorem DJ (s:ah) (k:af):pZ (s,k,())=some (bX s k,()):=by
 have:=L0 s k;unfold xx at this;unfold pZ;exact this
theorem aqn (t:List ak) (m:a6) (ao:t.length<1000000000000):PM ((t.length:Int),(0:Int),m,t,())=some (.inl (t.map (gS m),())):=by
 obtain ⟨r,aa,ad⟩:=dY (b:=AP) (fun i (o:List ak)=>((t.length:Int),(i:Int),m,o,())) t.length (fun i o=>o=(t.take i).map (gS m)++t.drop i)
  (fun r=>r=.inl (t.map (gS m),())) (by omega)
  (fun i ab o an=>by
   left;have ax:t.drop i=t[i]::t.drop (i+1):=List.drop_eq_getElem_cons ab;have hlen:((t.take i).map (gS m)).length=i:=by rw[List.length_map,List.length_take];omega
   have mI:o.length=t.length:=by rw[an,List.length_append,hlen,List.length_drop];omega
   have a7:((i:Int)<(t.length:Int)):=by omega
   have aY:((0:Int)<=(i:Int)):=by omega
   have bH:List.getD o i (([]:af),(([]:af),((0:Int),())))=t[i]:=by
    rw[an,ax];exact Dk hlen
   have w:=fL i (by omega);have jR: ∀q,o.set i q=(t.take i).map (gS m)++q::t.drop (i+1):=by
    intro q;rw[an,ax,List.set_append_right _ _ (by omega),hlen,Nat.sub_self];rfl
   have fH:(t.take (i+1)).map (gS m)++t.drop (i+1)=(t.take i).map (gS m)++gS m t[i]::t.drop (i+1):=by
    rw[eV ab,List.map_append,List.append_assoc];rfl
   refine ⟨_,rfl,?_⟩;rw[fH];unfold AP gS;simp only[mI,a7,aY,am,az,b7,bQ,bH,w,DJ,jR];cases bC:bX m.2.2.2.1 (t[i]).1
   ·simp only[aM];rw[an,ax];rfl
   ·simp only[az];rfl)
  (fun o an=>by
   have a7: ¬((t.length:Int)<(t.length:Int)):=by omega
   rw[List.take_length,List.drop_length,List.append_nil]at an;refine ⟨_,rfl,?_⟩;unfold AP;simp only[a7,bg,aM,not_false_eq_true,an]) t (by simp)
 subst ad;exact aa
def hz (t:List ak) (m:a6):List ak:=
 if m.1=1 then je t (m.2.1,m.2.2.1,m.2.2.2.2.2.2.1,())
 else if m.1=2 then t.filter fun p=> !bX (m.2.1,m.2.1++[0],()) p.1
 else if m.1=3 then t.filter fun p=> !bX m.2.2.2.1 p.1
 else if m.1=6 then t.map (gS m)
 else oY m t
theorem ahg (k:af) (h:k.length<1000000000000):mR (k,())=some ((k,k++[0],()),())/\oz (k,())=some ((k,k++[0],()),()):=by
 unfold mR oz;have:k.length+([0]:af).length<=bm:=by rw[dV];simp;omega
 simp only[this,am,az,and_self]
theorem aaq (s:ah):(fun p:ak=> !([s]:List ah).any (fun s=>bX s p.1))=fun p=> !bX s p.1:=by
 funext p
 simp
theorem ZT (t:List ak) (m:a6) (hm:fM m) (ar:ck bx t) (ao:t.length<100000000000) (av: ∀p∈t,p.1.length<1000):
  pS (t,m,())=some (hz t m,())/\pN (t,m,())=some (hz t m,()):=by
 have ata:m.1=1\/m.1=2->m.2.1.length<1000000000000:=fun h=>by
  have hlen:iX.all (fun k=>decide (k.length<100))=true:=by kernel_rfl
  have:=of_decide_eq_true (List.all_eq_true.1 hlen _ (hm.key h));omega
 have room:(([]:List ak).length+t.length)*40<=bm:=by rw[dV];simp;omega
 by_cases aa:m.1=1
 ·have d1:decide (m.1=1)=true:=am aa;have ai:=ahl t (m.2.1,m.2.2.1,m.2.2.2.2.2.2.1,()) ar (by omega);have aq:=Yy t (m.2.1,m.2.2.1,m.2.2.2.2.2.2.1,()) ar (by omega);unfold pS pN Jh hz;rw[if_pos aa];simp only[d1,az,ai,aq];exact ⟨trivial,rfl⟩
 ·have d1:decide (m.1=1)=false:=bg aa;by_cases ad:m.1=2
  ·have d2:decide (m.1=2)=true:=am ad;obtain ⟨eM,ib⟩:=ahg m.2.1 (ata (.inr ad));have ai:=Lm t (m.2.1,m.2.1++[0],()) (.inr (R2 _)) ar (by omega);have aq:=Ky t [(m.2.1,m.2.1++[0],())] (by omega) (by simp);rw[aaq]at aq;unfold pS pN Jb Li hz;rw[if_neg aa,if_pos ad];simp only[d1,d2,az,aM,eM,ib,ai,aq,and_self]
  ·have d2:decide (m.1=2)=false:=bg ad;by_cases al:m.1=3
   ·have d3:decide (m.1=3)=true:=am al;have ai:=Lm t m.2.2.2.1 (hm.span (.inl al)) ar (by omega);have aq:=Ky t [m.2.2.2.1] (by omega) (by simp);rw[aaq]at aq;unfold pS pN IF hz;rw[if_neg aa,if_neg ad,if_pos al];simp only[d1,d2,d3,az,aM,ai,aq,and_self]
   ·have d3:decide (m.1=3)=false:=bg al;by_cases bu:m.1=6
    ·have d6:decide (m.1=6)=true:=am bu;have d4:decide (m.1=4)=false:=bg (by rw[bu];decide);have d5:decide (m.1=5)=false:=bg (by rw[bu];decide);have ai:=aqn t m (by omega);have aq:=aqo t m (by omega);unfold pS pN Qu hz;rw[if_neg aa,if_neg ad,if_neg al,if_pos bu];simp only[d1,d2,d3,d4,d5,d6,az,aM,DC t (show t.length<1000000000000 by omega),ai,room,am,List.nil_append,aq,and_self]
    ·have lW:FO m:=by
      rcases hm.kind with h |h |h |h |h |h
      ·exact absurd h aa
      ·exact absurd h ad
      ·exact absurd h al
      ·exact .inl h
      ·exact .inr h
      ·exact absurd h bu
     have an:r0 m:=⟨lW,hm.from_ lW,hm.to_ lW,(hm.apart lW).1,(hm.apart lW).2⟩;have rz:=Dy (iR _ an.from_);have tE:=Dy (iR _ an.to_);have hlen:eD.all (fun p=>decide (p.length<=4))=true:=by kernel_rfl
     have lt:=of_decide_eq_true (List.all_eq_true.1 hlen _ an.to_);have gq: ∀p∈t,m.2.2.2.2.2.1.length+p.1.length<1000000000000:=fun p aP=>by have:=av p aP;omega
     have aq:=aol t m lW rz tE ar ao gq;have qU:hz t m=oY m t:=by unfold hz;rw[if_neg aa,if_neg ad,if_neg al,if_neg bu]
     rw[qU];refine ⟨?_,aq⟩;unfold pS;simp only[d1,d2,d3,aM];rcases lW with aE |aZ
     ·simp only[am aE,az,agu t m an aE ar ao gq]
     ·have d4:decide (m.1=4)=false:=bg (by rw[aZ];decide);have ag:ia m t=t.filter fun x=> !bI x.1 m.2.2.2.2.2.1:=by unfold ia;rw[d4];rfl
      have:=Zx t m rz tE ar ao gq;rw[<-ag]at this;simp only[d4,aM,am aZ,az,this];rfl
end D
open Go Go.X
namespace D
def hc (a b:af):Bool:= !decide (a=[])&&(decide (b=[])||Op.bytesLess a b)
def iG (a b:af):af:=bif hc b a then b else a
def jC (a b:af):af:=bif !(Op.bytesLess a b) then a else b
def h3 (s:ah):Bool:= !decide (s.2.1=[])&&(Op.bytesLess s.2.1 s.1||decide (s.2.1=s.1))
theorem aps (a b:af):tT (a,b,())=some (hc a b,()):=by
 simp only[tT,hc];cases decide (a=[])<;>cases decide (b=[])<;>rfl
theorem aow (s:ah):rp (s,())=some (h3 s,()):=by
 simp only[rp,h3];cases decide (s.2.1=[])<;>rfl
theorem BI (s:ah):j8 (s,())=some (h3 s,()):=by
 simp only[j8,h3];cases decide (s.2.1=[])<;>rfl
def iI (a b:ah):Bool:= !h3 (jC a.1 b.1,(iG a.2.1 b.2.1,()))
def gd (a b:ah):ah:=bif iI a b then (jC a.1 b.1,(iG a.2.1 b.2.1,())) else ([97],([97],()))
theorem YQ (a b:af): ∃c,wy (a,b,())=some (c,())/\decide (c<0)=hc a b:=by
 have aa6: ∀y:af,AM (y,())=some (false,()):=fun y=>by simp[AM]
 simp only[wy];by_cases fg:a=b
 ·subst fg;refine ⟨0,by simp only[cL,az],?_⟩;unfold hc;rw[gN];cases decide (a=[])<;>rfl
 ·by_cases aR:a=[]
  ·refine ⟨1,by simp only[bg fg,aM,am aR,az],?_⟩;unfold hc;rw[am aR];rfl
  ·by_cases ag:b=[]
   ·refine ⟨-1,by simp only[bg fg,aM,bg aR,am ag,az],?_⟩;unfold hc;rw[bg aR,am ag];rfl
   ·cases ao:Op.bytesLess a b with
    |true=>
     refine ⟨-1,by simp only[bg fg,bg aR,bg ag,aM,FX,aa6,ao,az],?_⟩;unfold hc;rw[bg aR,bg ag,ao];rfl
    |false=>
     refine ⟨1,by simp only[bg fg,bg aR,bg ag,aM,FX,aa6,ao,Bool.or_false,dm,az],?_⟩;unfold hc;rw[bg aR,bg ag,ao];rfl
theorem aqb (a b:af):Db ([a,b],())=some (iG a b,()):=by
 obtain ⟨c,aa,ad⟩:=YQ b a;have b6:(decide ((((List.length ([a,b]:List af)):Int):Int)<(1:Int)))=false:=rfl;have ai:(decide ((0:Int)<(List.length ([a,b]:List af):Int)))=true:=rfl;have aq:(decide ((1:Int)<((List.length ([a,b]:List af)):Int)))=true:=rfl;have bc:(decide ((0:Int)<=(1:Int)))=true:=rfl;have bz:(decide ((2:Int)<((List.length ([a,b]:List af)):Int)))=false:=rfl;have g0:List.getD ([a,b]:List af) 0 []=a:=rfl;have g1:List.getD ([a,b]:List af) (Int.toNat 1) []=b:=rfl;have w:i64.wrap ((1:Int)+1)=2:=rfl;have b1:vh ([a,b],a,1,())=some (.inl ([a,b],iG a b,2,())):=by
  simp only[vh,aq,bc,b7,az,g1,aa,ad,w];unfold iG;cases hc b a<;>rfl
 have b2:vh ([a,b],iG a b,2,())=some (.inr (.inl (iG a b,()))):=by
  simp only[vh,bz,aM]
 have h:Nb ([a,b],a,1,())=some (.inl (iG a b,())):=lB (n:=2) (by rw[jV];omega) (by simp only[dR,b1,b2]);simp only[Db,OL,b6,ai,aM,az,g0,h]
theorem C0 (a b:ah):rP (a,b,())=some (gd a b,()):=by
 simp only[rP,aqb,BI];unfold gd iI jC;cases h3 _<;>rfl
theorem KI (a b:ah):h3 (gd a b)= !iI a b:=by
 unfold gd;cases h:iI a b
 ·rfl
 ·rw[az];unfold iI at h;rw[Bool.not_eq_true']at h;exact h
theorem DQ {a b k:af}:Op.bytesLess k (jC a b)=false↔Op.bytesLess k a=false/\Op.bytesLess k b=false:=by
 unfold jC;cases h:Op.bytesLess a b
 ·simp only[dm,az];refine ⟨fun aa=>⟨aa,?_⟩,fun aa=>aa.1⟩;cases ad:Op.bytesLess k b
  ·rfl
  ·rcases hi a b with al |al |al
   ·rw[h]at al;cases al
   ·rw[al,ad]at aa;cases aa
   ·rw[e6 ad al]at aa;cases aa
 ·simp only[du,aM];refine ⟨fun aa=>⟨?_,aa⟩,fun aa=>aa.2⟩;cases ad:Op.bytesLess k a
  ·rfl
  ·rw[e6 ad h]at aa;cases aa
theorem KG {a b k:af}:(iG a b=[]\/Op.bytesLess k (iG a b)=true)↔(a=[]\/Op.bytesLess k a=true)/\(b=[]\/Op.bytesLess k b=true):=by
 unfold iG hc;by_cases ag:b=[]
 ·subst ag;simp
 ·by_cases aR:a=[]
  ·subst aR;simp[ag]
  ·have e:(bif (!decide (b=[])&&(decide (a=[])||Op.bytesLess b a)) then b else a)=(bif Op.bytesLess b a then b else a):=by
    rw[bg ag,bg aR];rfl
   rw[e];cases h:Op.bytesLess b a
   ·simp only[aM,aR,ag,false_or];refine ⟨fun aa=>⟨aa,?_⟩,fun aa=>aa.1⟩;rcases hi a b with al |al |al
    ·exact e6 aa al
    ·rw[<-al];exact aa
    ·rw[h]at al;cases al
   ·simp only[az,aR,ag,false_or];exact ⟨fun aa=>⟨e6 aa h,aa⟩,fun aa=>aa.2⟩
theorem eU {s:ah} {k:af}:bX s k=true↔Op.bytesLess k s.1=false/\(s.2.1=[]\/Op.bytesLess k s.2.1=true):=by
 unfold bX;simp only[bB,Bool.not_eq_true',Bool.or_eq_true,dd]
theorem yL {a b:ah}:iI a b=true↔ ∃k,bX a k=true/\bX b k=true:=by
 have key: ∀lo ab:af,h3 (lo,(ab,()))=false↔(ab=[]\/Op.bytesLess lo ab=true):=fun lo ab=>by
  unfold h3;by_cases h:ab=[]
  ·simp[h]
  ·rw[bg h];simp only[dm,Bool.true_and,Bool.or_eq_false_iff,decide_eq_false_iff_not];constructor
   ·rintro ⟨aa,ad⟩;right;rcases hi lo ab with al |al |al
    ·exact al
    ·exact absurd al.symm ad
    ·rw[aa]at al;cases al
   ·rintro (aa |aa)
    ·exact absurd aa h
    ·exact ⟨hJ aa,fun ad=>by rw[ad,gN]at aa;cases aa⟩
 unfold iI;rw[Bool.not_eq_true',key];constructor
 ·intro h;have aa:=KG.1 h;have ad:=DQ.1 (gN (jC a.1 b.1));exact ⟨jC a.1 b.1,eU.2 ⟨ad.1,aa.1⟩,eU.2 ⟨ad.2,aa.2⟩⟩
 ·rintro ⟨k,aa,ad⟩;obtain ⟨eo,a2⟩:=eU.1 aa;obtain ⟨b1,b2⟩:=eU.1 ad;have al:=KG.2 ⟨a2,b2⟩;have aE:=DQ.2 ⟨eo,b1⟩;rcases al with al |al
  ·exact .inl al
  ·right;rcases hi (jC a.1 b.1) k with aZ |aZ |aZ
   ·exact e6 aZ al
   ·rw[aZ];exact al
   ·rw[aE]at aZ;cases aZ
theorem apu {a b:ah} {k:af} (h:iI a b=true):bX (gd a b) k=true↔bX a k=true/\bX b k=true:=by
 unfold gd;rw[h,az,eU,eU,eU];show (Op.bytesLess k (jC a.1 b.1)=false/\(iG a.2.1 b.2.1=[]\/_))↔_;rw[DQ,KG];constructor
 ·rintro ⟨⟨mg,mW⟩,rS,BQ⟩;exact ⟨⟨mg,rS⟩,mW,BQ⟩
 ·rintro ⟨⟨mg,rS⟩,mW,BQ⟩;exact ⟨⟨mg,mW⟩,rS,BQ⟩
def ahF (m:a6):List ah:=((om (m,())).map (·.1)).getD []
def tm (p:ah) (m:a6):Bool:=(ahF m).any fun w=>iI w p
end D
open Go Go.X
namespace D
def Ij:Nat->Nat
 |0=>0
 |d+1=>6*(1+Ij d)
def Sf:Nat->Nat
 |0=>0
 |d+1=>5*Ij (d+1)+6*Sf d
end D
open Go Go.X
namespace D
end D
open Go Go.X
namespace D
def sJ (q s:ah):Bool:= !(Op.bytesLess q.1 s.1)&&(decide (s.2.1=[])||(!decide (q.2.1=[])&& !(Op.bytesLess s.2.1 q.2.1)))
theorem mQ {a b c:af} (aa:Op.bytesLess b a=false) (ad:Op.bytesLess c b=false):Op.bytesLess c a=false:=by
 cases h:Op.bytesLess c a
 ·rfl
 ·rcases hi a b with al |al |al
  ·rw[e6 h al]at ad;cases ad
  ·rw[<-al,h]at ad;cases ad
  ·rw[aa]at al;cases al
theorem LF {q s:ah} {k:af} (h:sJ q s=true) (av:bX q k=true):bX s k=true:=by
 unfold sJ at h;rw[bB,Bool.not_eq_true']at h;obtain ⟨aa,ad⟩:=h;obtain ⟨a1,k2⟩:=eU.1 av;refine eU.2 ⟨mQ aa a1,?_⟩;rw[Bool.or_eq_true,dd,bB,Bool.not_eq_true',Bool.not_eq_true',decide_eq_false_iff_not]at ad;rcases ad with ad |⟨ad,al⟩
 ·exact .inl ad
 ·right;rcases k2 with k2 |k2
  ·exact absurd k2 ad
  ·rcases hi q.2.1 s.2.1 with aE |aE |aE
   ·exact e6 k2 aE
   ·rw[<-aE];exact k2
   ·rw[al]at aE;cases aE
theorem j6: ∀n,n<=2->Ij (n+1)<=300/\Sf n<=400
 |0,_=>by decide
 |1,_=>by decide
 |2,_=>by decide
 |n+3,h=>by omega
end D
open Go Go.X
namespace D
theorem j2 {x:Int} (h:(Lit.int .u8 x).wf=true):0<=x/\x<256:=by
 simp[Lit.wf,IntKind.min,IntKind.max,IntKind.signed,IntKind.bits]at h;omega
abbrev Bo:aD:=.pair (.int .u8) (.pair (.int .u8) (.pair (.int .u8) .unit))
abbrev pX:aD:=.pair (.int .u8) (.pair (.int .u8) (.pair (.int .u8) (.pair (.int .u8) (.pair (.int .u8) (.pair (.int .u8) .unit)))))
abbrev RW:aD:=.pair (.list Bo) (.pair (.pair (.list pX) (.pair (.list pX) (.pair (.list pX) (.pair (.list pX) .unit)))) (.pair (.int .u8) .unit))
theorem Ej {B:aD->Nat} (cM:B pX=6) {l:List mn} (h:aD.good B (.list pX) l):(∀y∈l,ow y)/\l.length<1000000000000000000:=by
 obtain ⟨aa,ad⟩:=h;refine ⟨fun x aw=> ?_,?_⟩
 ·have h:=ad x aw;exact ⟨⟨j2 h.1,j2 h.2.1,j2 h.2.2.1,j2 h.2.2.2.1⟩,j2 h.2.2.2.2.1,j2 h.2.2.2.2.2.1⟩
 ·rw[cM]at aa;unfold reachBytes at aa;omega
theorem agq {B:aD->Nat} (cM:B Bo=3) {l:List fc} (h:aD.good B (.list Bo) l):(∀y∈l,tM y)/\l.length<1000000000000000000:=by
 obtain ⟨aa,ad⟩:=h;refine ⟨fun x aw=> ?_,?_⟩
 ·have h:=ad x aw;exact ⟨j2 h.1,j2 h.2.1,j2 h.2.2.1⟩
 ·rw[cM]at aa;unfold reachBytes at aa;omega
theorem ahC {B:aD->Nat} (al:B Bo=3) (bu:B pX=6) {x:eh} (h:aD.good B RW x):y7 x:=
 ⟨⟨Ej bu h.2.1.1,Ej bu h.2.1.2.1,Ej bu h.2.1.2.2.1,Ej bu h.2.1.2.2.2.1⟩,agq al h.1,j2 h.2.2.1⟩
inductive Src where
 |gen (v:af) (n:Int)
 |gone
 |old (k:af) (st:Option Int)
def en (m:a6) (k:af):Src:=
 if m.1=1 then (if m.2.1=k then .gen m.2.2.1 m.2.2.2.2.2.2.1 else .old k none)
 else if m.1=2 then (if m.2.1=k then .gone else .old k none)
 else if m.1=3 then (if bX m.2.2.2.1 k=true then .gone else .old k none)
 else if m.1=6 then .old k (if bX m.2.2.2.1 k=true then some m.2.2.2.2.2.2.1 else none)
 else if m.1=4/\bI k m.2.2.2.2.1=true then .gone
 else if bI k m.2.2.2.2.2.1=true then .old (eL m.2.2.2.2.2.1 m.2.2.2.2.1 k) none
 else .old k none
def nS (s:Src) (t:List ak) (x:ak):Prop:=
 match s with
 | .gen v n=>x=(x.1,v,n,())
 | .gone=>False
 | .old k st=> ∃y∈t,y.1=k/\x=(x.1,y.2.1,st.getD y.2.2.1,())
theorem yn {t:List ak} {x:ak}:nS (.old x.1 none) t x↔x∈t:=by
 constructor
 ·rintro ⟨y,bf,aa,ad⟩;have:x=y:=by rw[ad,<-aa];rfl
  rw[this];exact bf
 ·intro h;exact ⟨x,h,rfl,rfl⟩
theorem Ea (k x:af):bX (k,k++[0],()) x=decide (x=k):=by
 have cp:k++[0]≠[]:=by simp
 have key: ∀k x:af,(!Op.bytesLess x k&&Op.bytesLess x (k++[0]))=decide (x=k):=by
  intro k
  induction k with
  |nil=>
   intro x;cases x with
   |nil=>rfl
   |cons b x=>
    have h:Op.bytesLess (b::x) [0]=false:=by
     cases x<;>simp[Op.bytesLess]
    have ad:Op.bytesLess (b::x) []=false:=rfl;show (!Op.bytesLess (b::x) []&&Op.bytesLess (b::x) [0])=_;rw[h,ad];simp
  |cons a k aO=>
   intro x;cases x with
   |nil=>rfl
   |cons b x=>
    show (!(decide (b<a)||(b==a&&Op.bytesLess x k))&&(decide (b<a)||(b==a&&Op.bytesLess x (k++[0]))))=_;by_cases aa:b<a
    ·have:b≠a:=by intro e;rw[e]at aa;exact absurd aa (UInt8.lt_irrefl a)
     simp[aa,this]
    ·by_cases ad:b=a
     ·subst ad;have:=aO x;simp only[aa,decide_false,Bool.false_or,beq_self_eq_true,Bool.true_and,this,List.cons.injEq,true_and]
     ·simp[aa,ad]
 have:=key k x;unfold bX;rw[bg cp,Bool.false_or];exact this
theorem fM.mv {m:a6} (hm:fM m) (aa:m.1≠1) (ad:m.1≠2) (al:m.1≠3) (bu:m.1≠6):r0 m:=by
 have lW:FO m:=by
  rcases hm.kind with h |h |h |h |h |h
  ·exact absurd h aa
  ·exact absurd h ad
  ·exact absurd h al
  ·exact .inl h
  ·exact .inr h
  ·exact absurd h bu
 exact ⟨lW,hm.from_ lW,hm.to_ lW,(hm.apart lW).1,(hm.apart lW).2⟩
theorem L5 {t:List ak} {m:a6} (hm:fM m) (ar:ck bx t) (x:ak):x∈hz t m↔nS (en m x.1) t x:=by
 unfold hz en;by_cases aa:m.1=1
 ·rw[if_pos aa,if_pos aa,agr];by_cases av:m.2.1=x.1
  ·rw[if_pos av];constructor
   ·rintro (h |⟨-,h⟩)
    ·rw[h];rfl
    ·exact absurd av.symm h
   ·intro h;have h:x=(x.1,m.2.2.1,m.2.2.2.2.2.2.1,()):=h;left;rw[av];exact h
  ·rw[if_neg av,yn];constructor
   ·rintro (h |⟨h,-⟩)
    ·exact absurd (by rw[h]) av
    ·exact h
   ·intro h;exact .inr ⟨h,fun e=>av e.symm⟩
 ·rw[if_neg aa,if_neg aa];by_cases ad:m.1=2
  ·rw[if_pos ad,if_pos ad,List.mem_filter,Ea];by_cases av:m.2.1=x.1
   ·rw[if_pos av];constructor
    ·rintro ⟨-,h⟩;rw[am av.symm]at h;cases h
    ·exact False.elim
   ·rw[if_neg av,yn,bg (fun e:x.1=m.2.1=>av e.symm)];simp
  ·rw[if_neg ad,if_neg ad];by_cases al:m.1=3
   ·rw[if_pos al,if_pos al,List.mem_filter];cases bC:bX m.2.2.2.1 x.1
    ·rw[if_neg (by simp),yn];simp
    ·rw[if_pos rfl];constructor
     ·rintro ⟨-,h⟩;cases h
     ·exact False.elim
   ·rw[if_neg al,if_neg al];by_cases bu:m.1=6
    ·rw[if_pos bu,if_pos bu,List.mem_map];have Ae: ∀y:ak,(gS m y).1=y.1:=fun y=>by unfold gS;cases bX m.2.2.2.1 y.1<;>rfl
     have lx: ∀y:ak,gS m y=(y.1,y.2.1,(if bX m.2.2.2.1 y.1=true then some m.2.2.2.2.2.2.1 else none).getD y.2.2.1,()):=fun y=>by
      unfold gS;cases bX m.2.2.2.1 y.1<;>rfl
     constructor
     ·rintro ⟨y,bf,rfl⟩;refine ⟨y,bf,(Ae y).symm,?_⟩;rw[Ae y];exact lx y
     ·rintro ⟨y,bf,ai,aq⟩;refine ⟨y,bf,?_⟩;rw[lx y,aq,ai]
    ·rw[if_neg bu,if_neg bu];have an:=hm.mv aa ad al bu;unfold oY;rw[A6 Zp (DK ar)];have ag:x∈ia m t↔x∈t/\bI x.1 m.2.2.2.2.2.1=false/\ ¬(m.1=4/\bI x.1 m.2.2.2.2.1=true):=by
      unfold ia;by_cases aE:m.1=4
      ·rw[am aE,az,List.mem_filter,List.mem_filter];cases bI x.1 m.2.2.2.2.2.1<;>cases bI x.1 m.2.2.2.2.1<;>simp[aE]
      ·rw[bg aE,aM,List.mem_filter];cases bI x.1 m.2.2.2.2.2.1<;>simp[aE]
     have ha:x∈(gf m t).map (gr m.2.2.2.2.1 m.2.2.2.2.2.1)↔bI x.1 m.2.2.2.2.2.1=true/\ ∃y∈t,y.1=eL m.2.2.2.2.2.1 m.2.2.2.2.1 x.1/\x=(x.1,y.2.1,y.2.2.1,()):=by
      rw[List.mem_map];constructor
      ·rintro ⟨y,bf,rfl⟩;obtain ⟨bf,aK⟩:=List.mem_filter.1 bf;refine ⟨sD,y,bf,?_,rfl⟩;obtain ⟨r,aA⟩:=iE.1 aK;show y.1=eL _ _ (eL _ _ y.1);rw[aA,jW,jW]
      ·rintro ⟨ag,y,bf,ai,aq⟩;obtain ⟨r,aA⟩:=iE.1 ag;rw[aA,jW]at ai;refine ⟨y,List.mem_filter.2 ⟨bf,?_⟩,?_⟩
       ·show bI y.1 _=true;rw[ai];exact yE _ _
       ·show (eL _ _ y.1,y.2.1,y.2.2.1,())=x;rw[ai,jW,<-aA];exact aq.symm
     rw[ag,ha];by_cases aE:m.1=4/\bI x.1 m.2.2.2.2.1=true
     ·rw[if_pos aE];constructor
      ·rintro (⟨-,-,h⟩|⟨h,-⟩)
       ·exact absurd aE h
       ·rw[an.not_both aE.2]at h;cases h
      ·exact False.elim
     ·rw[if_neg aE];cases bC:bI x.1 m.2.2.2.2.2.1
      ·rw[if_neg (by simp),yn];simp[aE]
      ·rw[if_pos rfl];constructor
       ·rintro (⟨-,h,-⟩|⟨-,h⟩)
        ·cases h
        ·exact h
       ·intro h;exact .inr ⟨rfl,h⟩
theorem LN {t:List ak} {m:a6} (ar:ck bx t):ck bx (hz t m):=by
 unfold hz;split
 ·unfold je;exact ck.ins ar.wo (aau _ _)
 ·split
  ·exact List.Pairwise.filter _ ar
  ·split
   ·exact List.Pairwise.filter _ ar
   ·split
    ·refine List.pairwise_map.2 ?_;refine List.Pairwise.imp (fun {a b} h=> ?_) ar;have Ae: ∀y:ak,(gS m y).1=y.1:=fun y=>by unfold gS;cases bX m.2.2.2.1 y.1<;>rfl
     show Op.bytesLess (gS m a).1 (gS m b).1=true;rw[Ae,Ae];exact h
    ·exact aao ar
theorem agc (t:List ak) (m:a6):(hz t m).length<=2*t.length+1:=by
 unfold hz;split
 ·have:=aaa t (m.2.1,m.2.2.1,m.2.2.2.2.2.2.1,());omega
 ·split
  ·have:=List.length_filter_le (fun p:ak=> !bX (m.2.1,m.2.1++[0],()) p.1) t;omega
  ·split
   ·have:=List.length_filter_le (fun p:ak=> !bX m.2.2.2.1 p.1) t;omega
   ·split
    ·rw[List.length_map];omega
    ·have:=af9 m t;omega
def u7 (t:List ak):List a6->List ak
 |[]=>t
 |m::r=>hz (u7 t r) m
def fu (t:List ak) (l:List a6):List ak:=l.foldl hz t
theorem Lb (t:List ak) (l:List a6) (m:a6):fu t (l++[m])=hz (fu t l) m:=by
 unfold fu;rw[List.foldl_append];rfl
theorem LL (t:List ak): ∀r:List a6,u7 t r=fu t r.reverse
 |[]=>rfl
 |m::r=>by
  rw[List.reverse_cons,Lb,<-LL t r];rfl
theorem yl {t:List ak} (ar:ck bx t): ∀l:List a6,ck bx (fu t l):=by
 intro l
 induction l generalizing t with
 |nil=>exact ar
 |cons m l aO=>exact aO (LN ar)
theorem ZR (l:List a6): ∀t:List ak,(fu t l).length+1<=2^l.length*(t.length+1):=by
 induction l with
 |nil=>intro t;simp[fu]
 |cons m l aO=>
  intro t;have aa:=aO (hz t m);have ad:=agc t m;have al:2^l.length*((hz t m).length+1)<=2^l.length*(2*t.length+1+1):=Nat.mul_le_mul_left _ (by omega);have aE:2^(m::l).length*(t.length+1)=2^l.length*(2*t.length+1+1):=by
   rw[List.length_cons,Nat.pow_succ,Nat.mul_assoc,show 2*(t.length+1)=2*t.length+1+1 by omega]
  rw[aE];exact Nat.le_trans aa al
def iN (st:Option Int):Src->Src
 | .gen v n=>.gen v (st.getD n)
 | .gone=>.gone
 | .old k aW=>.old k (st.or aW)
def eC:List a6->af->Src
 |[],k=>.old k none
 |m::r,k=>match en m k with
  | .gen v n=>.gen v n
  | .gone=>.gone
  | .old k' st=>iN st (eC r k')
theorem aaB (a b:Option Int) (d:Int):(a.or b).getD d=a.getD (b.getD d):=by
 cases a<;>cases b<;>rfl
theorem ZP {t:List ak} (ar:ck bx t): ∀(r:List a6),(∀m∈r,fM m)-> ∀x,x∈u7 t r↔nS (eC r x.1) t x
 |[],_,x=>by
  show x∈t↔nS (.old x.1 none) t x;rw[yn]
 |m::r,h,x=>by
  have aA:ck bx (u7 t r):=by rw[LL];exact yl ar _
  have aO:=ZP ar r (fun n aQ=>h n (List.mem_cons_of_mem _ aQ));show x∈hz (u7 t r) m↔_;rw[L5 (h m List.mem_cons_self) aA];unfold eC;cases hm:en m x.1 with
  |gen v n=>exact Iff.rfl
  |gone=>exact Iff.rfl
  |old k st=>
   show (∃y∈u7 t r,y.1=k/\x=(x.1,y.2.1,st.getD y.2.2.1,()))↔nS (iN st (eC r k)) t x;cases aA:eC r k with
   |gen v n=>
    show _↔x=(x.1,v,st.getD n,());constructor
    ·rintro ⟨y,bf,ai,aq⟩;have:=(aO y).1 bf;rw[ai,aA]at this;have this:y=(y.1,v,n,()):=this;rw[aq,this]
    ·intro e;refine ⟨(k,v,n,()),(aO _).2 ?_,rfl,e⟩;show nS (eC r k) t _;rw[aA];rfl
   |gone=>
    show _↔False;constructor
    ·rintro ⟨y,bf,ai,aq⟩;have:=(aO y).1 bf;rw[ai,aA]at this;exact this
    ·exact False.elim
   |old k2 dC=>
    show _↔ ∃z∈t,z.1=k2/\x=(x.1,z.2.1,(st.or dC).getD z.2.2.1,());constructor
    ·rintro ⟨y,bf,ai,aq⟩;have:=(aO y).1 bf;rw[ai,aA]at this;obtain ⟨z,bA,f1,f2⟩:=this;refine ⟨z,bA,f1,?_⟩;rw[aaB,aq,f2]
    ·rintro ⟨z,bA,f1,f2⟩;refine ⟨(k,z.2.1,dC.getD z.2.2.1,()),(aO _).2 ?_,rfl,?_⟩
     ·show nS (eC r k) t _;rw[aA];exact ⟨z,bA,f1,rfl⟩
     ·rw[aaB]at f2;exact f2
theorem Ls {t:List ak} (ar:ck bx t) {l:List a6} (h: ∀m∈l,fM m) (x:ak):x∈fu t l↔nS (eC l.reverse x.1) t x:=by
 have:=ZP ar l.reverse (fun m hm=>h m (List.mem_reverse.1 hm)) x;rw[LL,List.reverse_reverse]at this;exact this
theorem Zu {t u:List ak} (ar:ck bx t) (hu:ck bx u) {l:List a6} (h: ∀m∈l,fM m) (x:ak)
  (av: ∀k st,eC l.reverse x.1=.old k st-> ∀y:ak,y.1=k->(y∈t↔y∈u)):x∈fu t l↔x∈fu u l:=by
 rw[Ls ar h,Ls hu h];cases e:eC l.reverse x.1 with
 |gen v n=>exact Iff.rfl
 |gone=>exact Iff.rfl
 |old k st=>
  constructor
  ·rintro ⟨y,bf,aa,ad⟩;exact ⟨y,(av k st e y aa).1 bf,aa,ad⟩
  ·rintro ⟨y,bf,aa,ad⟩;exact ⟨y,(av k st e y aa).2 bf,aa,ad⟩
theorem ZB {s x:ah} (h:oi (s,x,())=some (true,())) {k:af} (av:bX x k=true):bX s k=true:=by
 have aw:h3 x=false:=by
  unfold h3;obtain ⟨a1,k2⟩:=eU.1 av;rcases k2 with k2 |k2
  ·rw[am k2];rfl
  ·have:Op.bytesLess x.1 x.2.1=true:=by
    rcases hi x.1 k with al |al |al
    ·exact e6 al k2
    ·rw[al];exact k2
    ·rw[a1]at al;cases al
   have ad:decide (x.2.1=x.1)=false:=bg (fun e=>js this e.symm);rw[hJ this,ad];simp
 simp only[oi,aow,aw,dm,az]at h;cases ar:h3 s with
 |true=>rw[ar]at h;simp only[du,aM]at h;cases h
 |false=>
  rw[ar]at h;simp only[dm,az]at h;cases eI:(Op.bytesLess s.1 x.1||decide ((s.1:af)=x.1)) with
  |false=>rw[eI]at h;cases h
  |true=>
   rw[eI]at h;simp only[az,aps]at h;have ase:Op.bytesLess x.1 s.1=false:=by
    rcases Bool.or_eq_true_iff.1 eI with aa |aa
    ·exact hJ aa
    ·rw[of_decide_eq_true aa];exact gN _
   have iB:hc s.2.1 x.2.1=false:=by
    cases ao:hc s.2.1 x.2.1
    ·rfl
    ·rw[ao]at h;cases h
   refine LF ?_ av;unfold sJ;rw[ase];by_cases e:s.2.1=[]
   ·rw[am e];rfl
   ·unfold hc at iB;rw[bg e]at iB ⊢;simp only[dm,Bool.true_and,Bool.or_eq_false_iff]at iB;simp[iB.1,iB.2]
theorem p1: ∀p∈eD,p.length<=4:=by
 have h:eD.all (fun p=>decide (p.length<=4))=true:=by kernel_rfl
 exact fun p aP=>of_decide_eq_true (List.all_eq_true.1 h p aP)
theorem aag {m:a6} {k v:af} {n:Int} (h:en m k=.gen v n):m.1=1/\m.2.1=k:=by
 unfold en at h;by_cases aa:m.1=1
 ·rw[if_pos aa]at h;by_cases av:m.2.1=k
  ·exact ⟨aa,av⟩
  ·rw[if_neg av]at h;cases h
 ·rw[if_neg aa]at h;split at h
  ·split at h<;>cases h
  ·split at h
   ·split at h<;>cases h
   ·split at h
    ·cases h
    ·split at h
     ·cases h
     ·split at h<;>cases h
theorem LC {m:a6} {k k':af} {st:Option Int} (h:en m k=.old k' st):
  k'=k\/(m.1≠1/\m.1≠2/\m.1≠3/\m.1≠6/\bI k m.2.2.2.2.2.1=true/\k'=eL m.2.2.2.2.2.1 m.2.2.2.2.1 k):=by
 unfold en at h;by_cases aa:m.1=1
 ·rw[if_pos aa]at h;split at h
  ·cases h
  ·injection h with ai aq;exact .inl ai.symm
 ·rw[if_neg aa]at h;by_cases ad:m.1=2
  ·rw[if_pos ad]at h;split at h
   ·cases h
   ·injection h with ai aq;exact .inl ai.symm
  ·rw[if_neg ad]at h;by_cases al:m.1=3
   ·rw[if_pos al]at h;split at h
    ·cases h
    ·injection h with ai aq;exact .inl ai.symm
   ·rw[if_neg al]at h;by_cases bu:m.1=6
    ·rw[if_pos bu]at h;injection h with ai aq;exact .inl ai.symm
    ·rw[if_neg bu]at h;split at h
     ·cases h
     ·split at h
      ·rename_i ag;injection h with ai aq
       exact .inr ⟨aa,ad,al,bu,ag,ai.symm⟩
      ·injection h with ai aq;exact .inl ai.symm
theorem D8 {t f k:af} (ag:bI k t=true):k.length+f.length=(eL t f k).length+t.length:=by
 obtain ⟨r,aA⟩:=iE.1 ag;rw[aA,jW,List.length_append,List.length_append];omega
theorem aqw {t:List ak} {m:a6} (hm:fM m) (ar:ck bx t) {B:Nat} (cM:100<=B) (h: ∀p∈t,p.1.length<=B): ∀x∈hz t m,x.1.length<=B+4:=by
 intro x aw;have:=(L5 hm ar x).1 aw;cases e:en m x.1 with
 |gen v n=>
  obtain ⟨aa,ad⟩:=aag e;have:=(rT _ (hm.key (.inl aa))).2;rw[ad]at this;omega
 |gone=>rw[e]at this;exact this.elim
 |old k st=>
  rw[e]at this;obtain ⟨y,bf,ai,aq⟩:=this;have bf:=h y bf;rcases LC e with aa |⟨aa,ad,al,bu,ag,aE⟩
  ·rw[ai,aa]at bf;omega
  ·have an:=hm.mv aa ad al bu;have de:=p1 _ an.to_;have:=D8 (f:=m.2.2.2.2.1) ag;rw[ai,aE]at bf;omega
theorem Zt {l:List a6} (h: ∀m∈l,fM m): ∀{t:List ak} {B:Nat},ck bx t->100<=B->(∀p∈t,p.1.length<=B)-> ∀x∈fu t l,x.1.length<=B+4*l.length:=by
 induction l with
 |nil=>intro t B _ _ ag x aw;exact ag x aw
 |cons m l aO=>
  intro t B ar cM ag x aw;have:=aO (fun n aQ=>h n (List.mem_cons_of_mem _ aQ)) (LN (m:=m) ar) (B:=B+4) (by omega) (aqw (h m List.mem_cons_self) ar cM ag) x aw;rw[List.length_cons];omega
theorem aqe {m:a6} {s:ah} (hm:gW m) (ao:kk (m,s,())=some (true,())):
  (m.1=1->bX s m.2.1=true)/\(m.1≠1->m.1≠2->m.1≠3->m.1≠6-> ∀k,bI k m.2.2.2.2.2.1=true->bX s k=true):=by
 have cF:=hm.ok;obtain ⟨-,R,W,-,kF,-,hl,aA,hw⟩:=ZN hm;have aB: ∀x∈W,oi (s,x,())=some (true,()):=by
  intro x aw;exact anU kF hl aA hw ao x (List.mem_append_right _ aw)
 constructor
 ·intro aa;have av:=cF.key (.inl aa);have:W=[(m.2.1,m.2.1++[0],())]:=by
   have d1:decide (m.1=1)=true:=am aa;simp only[h2,jH,d1,az,(qm av).2]at hl;exact (congrArg Prod.fst (Option.some.inj hl)).symm
  refine ZB (aB _ (by rw[this];exact List.mem_cons_self)) ?_;rw[Ea];simp
 ·intro aa ad al bu k av;have an:=cF.mv aa ad al bu;obtain ⟨gG,gH,pO⟩:=jr _ (iR _ an.from_);obtain ⟨au,aL,bF⟩:=jr _ (iR _ an.to_);have d1:decide (m.1=1)=false:=bg aa;have d2:decide (m.1=2)=false:=bg ad;have:c2 m.2.2.2.2.2.1∈W:=by
   rcases an.kind with aE |aZ
   ·have d4:decide (m.1=4)=true:=am aE;simp only[h2,jH,d1,d2,d4,az,aM,gH,aL]at hl;have:W=_:=(congrArg Prod.fst (Option.some.inj hl)).symm;rw[this];simp
   ·have d4:decide (m.1=4)=false:=bg (by omega);have d5:decide (m.1=5)=true:=am aZ;simp only[h2,jH,d1,d2,d4,d5,az,aM,gH,aL]at hl;have:W=_:=(congrArg Prod.fst (Option.some.inj hl)).symm;rw[this];simp
  refine ZB (aB _ this) ?_;rw[uK bF];exact av
def nK (s:ah) (t:List ak):Prop:= ∀p∈t,bX s p.1=true
theorem agM {t:List ak} {m:a6} {s:ah} (hm:gW m) (ao:kk (m,s,())=some (true,())) (ar:ck bx t) (h:nK s t):nK s (hz t m):=by
 intro x aw;have:=(L5 hm.ok ar x).1 aw;obtain ⟨g1,g2⟩:=aqe hm ao;cases e:en m x.1 with
 |gen v n=>
  obtain ⟨aa,ad⟩:=aag e;rw[<-ad];exact g1 aa
 |gone=>rw[e]at this;exact this.elim
 |old k st=>
  rw[e]at this;obtain ⟨y,bf,ai,aq⟩:=this;rcases LC e with aa |⟨aa,ad,al,bu,ag,aE⟩
  ·rw[<-aa,<-ai];exact h y bf
  ·exact g2 aa ad al bu _ ag
theorem agb {l:List a6} {s:ah} (h: ∀m∈l,gW m/\kk (m,s,())=some (true,())): ∀{t:List ak},ck bx t->nK s t->nK s (fu t l):=by
 induction l with
 |nil=>intro t _ aU;exact aU
 |cons m l aO=>
  intro t ar aU;have hm:=h m List.mem_cons_self;exact aO (fun n aQ=>h n (List.mem_cons_of_mem _ aQ)) (LN ar) (agM hm.1 hm.2 ar aU)
def nf (ab:af):af->List af->List ah
 |lo,[]=>[(lo,ab,())]
 |lo,p::m=>(lo,p,())::nf ab p m
theorem ss (ab:af): ∀(m:List af) (lo:af),(nf ab lo m).length=m.length+1
 |[],_=>rfl
 |p::m,lo=>by
  show (nf ab p m).length+1=_;rw[ss ab m p];rfl
theorem Mb (ab:af): ∀(m:List af) (lo:af),∀r∈nf ab lo m,r.1=lo\/r.1∈m
 |[],lo,r,h=>by
  obtain rfl:=List.mem_singleton.1 h;exact .inl rfl
 |p::m,lo,r,h=>by
  rcases List.mem_cons.1 h with rfl |h
  ·exact .inl rfl
  ·rcases Mb ab m p r h with h |h
   ·exact .inr (by rw[h];exact List.mem_cons_self)
   ·exact .inr (List.mem_cons_of_mem _ h)
abbrev Sep (q r:ah):Prop:=q.2.1≠[]/\Op.bytesLess r.1 q.2.1=false
theorem LZ (ab:af): ∀(m:List af) (lo:af),(∀p∈m,p≠[])->(m.Pairwise fun a b=>Op.bytesLess a b=true)->(nf ab lo m).Pairwise Sep
 |[],lo,_,_=>List.pairwise_singleton _ _
 |p::m,lo,aa,ad=>by
  have al:=List.pairwise_cons.1 ad;refine List.pairwise_cons.2 ⟨fun r aA=>⟨aa p List.mem_cons_self,?_⟩,LZ ab m p (fun q aN=>aa q (List.mem_cons_of_mem _ aN)) al.2⟩;show Op.bytesLess r.1 p=false;rcases Mb ab m p r aA with h |h
  ·rw[h];exact gN _
  ·exact hJ (al.1 _ h)
def hs (k:af):List af->Nat
 |[]=>0
 |p::m=>if Op.bytesLess k p=true then 0 else 1+hs k m
theorem aaL (ab:af) (k:af): ∀(m:List af) (lo:af) (j:Nat),(∀p∈m,p≠[])->(m.Pairwise fun a b=>Op.bytesLess a b=true)->j<m.length+1->
  bX (List.getD (nf ab lo m) j cS) k=true->j=hs k m
 |[],lo,j,_,_,ay,_=>by
  simp at ay;subst ay;rfl
 |p::m,lo,0,aa,ad,_,h=>by
  have h:bX (lo,p,()) k=true:=h;rcases (eU.1 h).2 with h |h
  ·exact absurd h (aa p List.mem_cons_self)
  ·unfold hs;rw[if_pos h]
 |p::m,lo,j+1,aa,ad,ay,h=>by
  have al:=List.pairwise_cons.1 ad;have h:bX (List.getD (nf ab p m) j cS) k=true:=h;have aO:=aaL ab k m p j (fun q aN=>aa q (List.mem_cons_of_mem _ aN)) al.2 (by simp at ay;omega) h;have eI:Op.bytesLess k p=false:=by
   have n8:j<(nf ab p m).length:=by rw[ss];simp at ay;omega
   have hm:=Mb ab m p _ (List.getElem_mem n8);rw[cq n8]at h;have av:=(eU.1 h).1;rcases hm with e |e
   ·rw[e]at av;exact av
   ·exact mQ (hJ (al.1 _ e)) av
  unfold hs;rw[if_neg (by rw[eI];simp),<-aO];omega
def pc:List (List af)->ah->Bool
 |[],_=>true
 |P::pv,s=>decide (partsOf s (cl P s)=nf s.2.1 s.1 (cl P s))&&(partsOf s (cl P s)).all fun q=>sJ q s&&pc pv q
theorem ap4: ∀pv∈lI,pc pv cS=true:=by
 have h:lI.all (fun pv=>pc pv cS)=true:=by kernel_rfl
 exact fun pv aP=>List.all_eq_true.1 h pv aP
theorem DI {P:List af} {pv:List (List af)} {s:ah} (h:pc (P::pv) s=true):
  partsOf s (cl P s)=nf s.2.1 s.1 (cl P s)/\ ∀q∈partsOf s (cl P s),sJ q s=true/\pc pv q=true:=by
 unfold pc at h;rw[bB,dd]at h;refine ⟨h.1,fun q aN=> ?_⟩;have:=List.all_eq_true.1 h.2 q aN;rw[bB]at this;exact this
theorem LP {P:List af} {s:ah}: ∀p∈cl P s,p≠[]:=by
 intro p aP e;have:=(List.mem_filter.1 aP).2;rw[e]at this;rw[bB,Bool.not_eq_true',Bool.or_eq_false_iff]at this;obtain ⟨⟨aa,ad⟩,al⟩:=this;have:=(eU.1 al).1;cases ar:s.1 with
 |nil=>rw[ar]at ad;simp at ad
 |cons a x=>rw[ar]at aa;cases aa
theorem DR {P:List af} (h:P.Pairwise fun a b=>Op.bytesLess a b=true) (s:ah):(cl P s).Pairwise fun a b=>Op.bytesLess a b=true:=List.Pairwise.filter _ h
theorem aak: ∀(L:List (List ak×ah)),(L.Pairwise fun a b=>Sep a.2 b.2)->(∀a∈L,ck bx a.1/\nK a.2 a.1)->ck bx (L.flatMap (·.1))
 |[],_,_=>List.Pairwise.nil
 |a::L,aa,ad=>by
  have al:=List.pairwise_cons.1 aa;rw[List.flatMap_cons];refine List.pairwise_append.2 ⟨(ad a List.mem_cons_self).1,aak L al.2 (fun b ag=>ad b (List.mem_cons_of_mem _ ag)),fun x aw y bf=> ?_⟩;obtain ⟨b,ag,bf⟩:=List.mem_flatMap.1 bf;have aw:=(ad a List.mem_cons_self).2 x aw;have bf:=(ad b (List.mem_cons_of_mem _ ag)).2 y bf;obtain ⟨s1,s2⟩:=al.1 b ag;rcases (eU.1 aw).2 with h |h
  ·exact absurd h s1
  ·have bf:=(eU.1 bf).1;have aE:=mQ s2 bf;rcases hi x.1 y.1 with aZ |aZ |aZ
   ·exact aZ
   ·rw[<-aZ,h]at aE;cases aE
   ·rw[e6 aZ h]at aE;cases aE
abbrev iJ:bs:=(([]:List ak),(([]:List af),(([]:List Int),(([]:List dX),(([]:List a6),())))))
def cont (ns:List bs):List (List af)->Nat->List ak
 |[],i=>(List.getD ns i iJ).1
 |_::pv,i=>fu ((List.getD ns i iJ).2.2.1.flatMap fun k=>cont ns pv k.toNat) (List.getD ns i iJ).2.2.2.2.1
def low (ns:List bs) (pv:List (List af)) (ks:List Nat):List ak:=ks.flatMap fun k=>cont ns pv k
theorem oF {ns:List bs} {i:Nat} {n:bs} (h:ns[i]? =some n):List.getD ns i iJ=n:=by
 unfold List.getD;rw[h];rfl
theorem Ce {ns:List bs} {i:Nat} {p:List ak} {piv:List af} {ks:List Nat} {sums:List dX} {buf:List a6} (P:List af) (pv:List (List af))
  (h:ns[i]? =some (p,piv,dL ks,sums,buf,())):cont ns (P::pv) i=fu (low ns pv ks) buf:=by
 show fu ((List.getD ns i iJ).2.2.1.flatMap fun k=>cont ns pv k.toNat) (List.getD ns i iJ).2.2.2.2.1=_;rw[oF h];show fu ((dL ks).flatMap fun k=>cont ns pv k.toNat) buf=_;unfold dL low;rw[List.flatMap_map];rfl
def clen:Nat->Nat
 |0=>1000
 |d+1=>32*(6*clen d+1)
structure Eg (s:ah) (d:Nat) (c:List ak):Prop where
 srt:ck bx c
 sp:nK s c
 len:c.length<=clen d
 key: ∀p∈c,p.1.length<=100+20*d
theorem apZ (L:List (List ak)) (c:Nat) (h: ∀a∈L,a.length<=c):L.flatten.length<=L.length*c:=by
 induction L with
 |nil=>simp
 |cons a L aO=>
  rw[List.flatten_cons,List.length_append,List.length_cons];have aa:=h a List.mem_cons_self;have ad:=aO (fun b ag=>h b (List.mem_cons_of_mem _ ag));rw[Nat.add_mul];omega
theorem aaT {ns:List bs} {pv:List (List af)} {ks:List Nat} {parts:List ah} {d:Nat} {s:ah} (av:ks.length=parts.length) (ao:ks.length<=6)
  (asI:parts.Pairwise Sep) (pt: ∀q∈parts,sJ q s=true) (h: ∀j,j<ks.length->Eg (List.getD parts j cS) d (cont ns pv (ks.getD j 0))):
  ck bx (low ns pv ks)/\nK s (low ns pv ks)/\(low ns pv ks).length<=6*clen d/\ ∀p∈low ns pv ks,p.1.length<=100+20*d:=by
 have oc: ∀x∈low ns pv ks,∃j,j<ks.length/\x∈cont ns pv (ks.getD j 0):=by
  intro x aw;obtain ⟨k,jl,aw⟩:=List.mem_flatMap.1 aw;obtain ⟨j,ay,rfl⟩:=List.mem_iff_getElem.1 jl;exact ⟨j,ay,by rw[cq ay];exact aw⟩
 refine ⟨?_,?_,?_,?_⟩
 ·have e:low ns pv ks=(List.zip (ks.map fun k=>cont ns pv k) parts).flatMap (·.1):=by
   unfold low;rw[List.flatMap_def,List.flatMap_def];congr 1;rw[List.map_fst_zip (by rw[List.length_map];omega)]
  rw[e];refine aak _ ?_ ?_
  ·have:((List.zip (ks.map fun k=>cont ns pv k) parts).map (·.2)).Pairwise Sep:=by
    rw[List.map_snd_zip (by rw[List.length_map];omega)];exact asI
   exact List.pairwise_map.1 this
  ·intro a aR;obtain ⟨j,ay,rfl⟩:=List.mem_iff_getElem.1 aR;have abX:j<ks.length:=by rw[List.length_zip,List.length_map]at ay;omega
   have fR:j<parts.length:=by omega
   have:=h j abX;rw[List.getElem_zip];rw[cq abX,cq fR]at this;simp only[List.getElem_map];exact ⟨this.srt,this.sp⟩
 ·intro x aw;obtain ⟨j,ay,aw⟩:=oc x aw;have:=(h j ay).sp x aw;have fR:j<parts.length:=by omega
  rw[cq fR]at this;exact LF (pt _ (List.getElem_mem fR)) this
 ·have e:low ns pv ks=(ks.map fun k=>cont ns pv k).flatten:=by unfold low;rw[List.flatMap_def]
  rw[e];have:=apZ (ks.map fun k=>cont ns pv k) (clen d) (by
   intro a aR;obtain ⟨k,jl,rfl⟩:=List.mem_map.1 aR;obtain ⟨j,ay,rfl⟩:=List.mem_iff_getElem.1 jl;have:=(h j ay).len;rw[cq ay]at this;exact this)
  rw[List.length_map]at this;exact Nat.le_trans this (Nat.mul_le_mul_right _ ao)
 ·intro x aw;obtain ⟨j,ay,aw⟩:=oc x aw;exact (h j ay).key x aw
theorem gz.cont_ok {ns:List bs} {t:List ak} (aU:ck bx t) (ao:t.length<=1000) (av: ∀p∈t,p.1.length<=100): ∀{pv:List (List af)} {s:ah} {i:Nat},
  (∀q∈pv,q.length<=5)->(∀P∈pv,P.Pairwise fun a b=>Op.bytesLess a b=true)->pc pv s=true->gz ns t pv s i->Eg s pv.length (cont ns pv i)
 |[],s,i,_,_,_,h=>by
  have h:ns[i]? =some (inS s t,[],[],[],[],()):=h;have e:cont ns [] i=inS s t:=by
   show (List.getD ns i iJ).1=_;rw[oF h]
  rw[e];have l:=ql s t;refine ⟨List.Pairwise.filter _ aU,fun p aP=>(List.mem_filter.1 aP).2,?_,fun p aP=> ?_⟩
  ·show _<=1000;omega
  ·have:=av p (List.mem_filter.1 aP).1;simp;omega
 |P::pv,s,i,aN,jk,bH,⟨ks,sums,buf,aa,ad,al,aE,aZ,bu,dq,h4⟩=>by
  obtain ⟨g1,g2⟩:=DI bH;have iU:(cl P s).length<=5:=Nat.le_trans (yv P s) (aN P List.mem_cons_self);have l0:(partsOf s (cl P s)).length=ks.length:=by rw[g1,ss,ad]
  obtain ⟨de,cP,nB,pG⟩:=aaT (ns:=ns) (pv:=pv) (ks:=ks) (parts:=partsOf s (cl P s)) (d:=pv.length) (s:=s) l0.symm (by omega)
   (by rw[g1];exact LZ _ _ _ LP (DR (jk P List.mem_cons_self) s)) (fun q aN=>(g2 q aN).1) (fun j ay=>by
    have fR:j<(partsOf s (cl P s)).length:=by omega
    have arS:pc pv (List.getD (partsOf s (cl P s)) j cS)=true:=by
     rw[cq fR];exact (g2 _ (List.getElem_mem fR)).2
    exact gz.cont_ok aU ao av (fun q lv=>aN q (List.mem_cons_of_mem _ lv)) (fun q lv=>jk q (List.mem_cons_of_mem _ lv)) arS (h4 j ay).1)
  rw[Ce P pv aa];have asj: ∀m∈buf,fM m:=fun m hm=>(dq m hm).1.ok
  refine ⟨yl de buf,agb dq de cP,?_,?_⟩
  ·have:=ZR buf (low ns pv ks);have aq2:2^buf.length<=2^5:=Nat.pow_le_pow_right (by omega) bu;have aE:2^buf.length*((low ns pv ks).length+1)<=2^5*(6*clen pv.length+1):=Nat.mul_le_mul aq2 (by omega);show _<=32*(6*clen pv.length+1);omega
  ·intro x aw;have:=Zt asj de (by omega) pG x aw;rw[List.length_cons];omega
def bn (bk k:af) (o:Option Int):ub:=(false,false,bk,[],0,k,o.isSome,o.getD 0,())
theorem Z1 (bk k:af) (o:Option Int) (n:Int):xh (n,bn bk k o)=some (bn bk k (o.or (some n))):=by
 cases o<;>rfl
theorem agv {k t f:af} (av:k.length<=1000000) (aK:f.length<=4):rC (k,t,f,())=some (bif bI k t then (eL t f k,true,()) else ([],false,())):=
 Dn k t f (by omega)
theorem aar (m:a6) (bk k:af) (o:Option Int) (av:k.length<=1000000) (ag:m.2.2.2.2.1.length<=4):
  rE (m,bn bk k o)=some (false,bn bk (if bI k m.2.2.2.2.2.1=true then eL m.2.2.2.2.2.1 m.2.2.2.2.1 k else k) o):=by
 have h:=agv (t:=m.2.2.2.2.2.1) av ag;simp only[rE,bn,h];cases bI k m.2.2.2.2.2.1<;>rfl
def k9 (m:a6) (bk k:af) (o:Option Int):Bool×ub:=
 match en m k with
 | .gen v n=>(true,(false,true,bk,v,o.getD n,k,true,o.getD n,()))
 | .gone=>(true,bn bk k o)
 | .old k' st=>(false,bn bk k' (o.or st))
theorem p4 (o:Option Int):o.or none=o:=by cases o<;>rfl
theorem aht {m:a6} (h:m.1=1) (bk k:af) (o:Option Int):wT (m,bn bk k o)=some (k9 m bk k o):=by
 have aa:=Z1 bk k o m.2.2.2.2.2.2.1;unfold k9 en;rw[if_pos h];by_cases av:m.2.1=k
 ·have db:xh (m.2.2.2.2.2.2.1,false,false,bk,[],0,k,o.isSome,o.getD 0,())=some (bn bk k (o.or (some m.2.2.2.2.2.2.1))):=aa;rw[if_pos av];simp only[wT,bn,av,cL,du,aM,db];cases o<;>rfl
 ·rw[if_neg av];simp only[wT,bn,av,decide_false,dm,az,p4]
theorem a28 {m:a6} (h:m.1=2) (bk k:af) (o:Option Int):wU (m,bn bk k o)=some (k9 m bk k o):=by
 unfold k9 en;rw[if_neg (by omega),if_pos h];by_cases av:m.2.1=k
 ·rw[if_pos av];simp only[wU,bn,av,cL]
 ·rw[if_neg av];simp only[wU,bn,av,decide_false,p4]
theorem ahu {m:a6} (h:m.1=3) (bk k:af) (o:Option Int):Bk (m,bn bk k o)=some (k9 m bk k o):=by
 unfold k9 en;rw[if_neg (by omega),if_neg (by omega),if_pos h];simp only[Bk,bn,DJ];cases bX m.2.2.2.1 k
 ·rw[if_neg (by simp)];simp only[p4]
 ·rw[if_pos rfl]
theorem ahv {m:a6} (h:m.1=4) (bk k:af) (o:Option Int) (av:k.length<=1000000) (ag:m.2.2.2.2.1.length<=4):Bl (m,bn bk k o)=some (k9 m bk k o):=by
 have ad:rE (m,false,false,bk,[],0,k,o.isSome,o.getD 0,())=_:=aar m bk k o av ag;unfold k9 en;rw[if_neg (by omega),if_neg (by omega),if_neg (by omega),if_neg (by omega)];simp only[Bl,bn,apl];cases aa:bI k m.2.2.2.2.1
 ·rw[if_neg (by simp)];simp only[dm,az,ad];cases bI k m.2.2.2.2.2.1
  ·rw[if_neg (by simp),if_neg (by simp)];simp only[p4,bn]
  ·rw[if_pos rfl,if_pos rfl];simp only[p4,bn]
 ·rw[if_pos ⟨h,rfl⟩];simp only[du,aM]
theorem ahL {m:a6} (h:m.1=5) (bk k:af) (o:Option Int) (av:k.length<=1000000) (ag:m.2.2.2.2.1.length<=4):rE (m,bn bk k o)=some (k9 m bk k o):=by
 unfold k9 en;rw[if_neg (by omega),if_neg (by omega),if_neg (by omega),if_neg (by omega),if_neg (fun e:m.1=4/\_=>absurd e.1 (by omega)),aar m bk k o av ag];cases bI k m.2.2.2.2.2.1
 ·rw[if_neg (by simp),if_neg (by simp)];simp only[p4]
 ·rw[if_pos rfl,if_pos rfl];simp only[p4]
theorem ahw {m:a6} (h:m.1=6) (bk k:af) (o:Option Int):Bm (m,bn bk k o)=some (k9 m bk k o):=by
 have aa:xh (m.2.2.2.2.2.2.1,false,false,bk,[],0,k,o.isSome,o.getD 0,())=_:=Z1 bk k o m.2.2.2.2.2.2.1;unfold k9 en;rw[if_neg (by omega),if_neg (by omega),if_neg (by omega),if_pos h];simp only[Bm,bn,DJ];cases bX m.2.2.2.1 k
 ·rw[if_neg (by simp)];simp only[aM,p4]
 ·rw[if_pos rfl];simp only[az,aa,bn]
def lD (bk:af):Src->mN
 | .gen v n=>(true,true,(bk,v,n,()),[],false,0,())
 | .gone=>(true,false,([],[],0,()),[],false,0,())
 | .old k st=>(false,false,(bk,[],0,()),k,st.isSome,st.getD 0,())
abbrev DX (bk:af) (s:Src) (t:ub):Prop:=(t.1,t.2.1,(t.2.2.1,t.2.2.2.1,t.2.2.2.2.1,()),t.2.2.2.2.2.1,t.2.2.2.2.2.2.1,t.2.2.2.2.2.2.2.1,())=lD bk s
theorem agF (i:Int) (m:a6) (hm:fM m) (bk k:af) (o:Option Int) (R:ub) (av:k.length<=1000000):
  ∃c p hE,nc (i,m,(0:Int),false,false,bk,[],0,k,o.isSome,o.getD 0,R)=some (c,p,hE)/\
   ((c=true/\p=0/\ ∃k' st,en m k=.old k' st/\hE=(false,false,bk,[],0,k',(o.or st).isSome,(o.or st).getD 0,R))\/(c=false/\p=1/\(∀k' st,en m k≠ .old k' st)/\DX bk (iN o (en m k)) hE.2.2.2.2.2.2.2.2)):=by
 have fin: ∀x:Bool×ub,x=k9 m bk k o->
   ∃c p hE,nX ((!x.1),(-1:Int),x.2.1,x.2.2.1,x.2.2.2.1,x.2.2.2.2.1,x.2.2.2.2.2.1,x.2.2.2.2.2.2.1,x.2.2.2.2.2.2.2.1,x.2.2.2.2.2.2.2.2.1,R.1,R.2.1,R.2.2.1,R.2.2.2.1,R.2.2.2.2.1,R.2.2.2.2.2.1,R.2.2.2.2.2.2.1,R.2.2.2.2.2.2.2.1,())=some (c,p,hE)/\
   ((c=true/\p=0/\ ∃k' st,en m k=.old k' st/\hE=(false,false,bk,[],0,k',(o.or st).isSome,(o.or st).getD 0,R))\/(c=false/\p=1/\(∀k' st,en m k≠ .old k' st)/\DX bk (iN o (en m k)) hE.2.2.2.2.2.2.2.2)):=by
  intro x aw;subst aw;unfold k9;have ai:(decide ((-1:Int)= -1))=true:=rfl;cases ar:en m k with
  |gen v n=>
   simp only[nX,du,ai,az,aM];exact ⟨_,_,_,rfl,.inr ⟨rfl,rfl,fun _ _ h=>(by cases h),rfl⟩⟩
  |gone=>
   simp only[nX,du,ai,az,aM,bn];exact ⟨_,_,_,rfl,.inr ⟨rfl,rfl,fun _ _ h=>(by cases h),rfl⟩⟩
  |old k' st=>
   simp only[nX,dm,ai,az,aM,bn];exact ⟨_,_,_,rfl,.inl ⟨rfl,rfl,k',st,rfl,rfl⟩⟩
 have len:=fun h=>apD _ (hm.from_ h)
 rcases hm.kind with h |h |h |h |h |h
 ·have e:wT (m,false,false,bk,[],0,k,o.isSome,o.getD 0,())=_:=aht h bk k o;simp only[nc,h,cL,az,aM,show (decide ((0:Int)<=1)&&decide ((1:Int)<7))=true from rfl,show Nat.beq (Int.toNat (1:Int)) 6=false from rfl,show Nat.beq (Int.toNat (1:Int)) 5=false from rfl,show Nat.beq (Int.toNat (1:Int)) 4=false from rfl,show Nat.beq (Int.toNat (1:Int)) 3=false from rfl,show Nat.beq (Int.toNat (1:Int)) 2=false from rfl,show Nat.beq (Int.toNat (1:Int)) 1=true from rfl,e];exact fin _ rfl
 ·have e:wU (m,false,false,bk,[],0,k,o.isSome,o.getD 0,())=_:=a28 h bk k o;simp only[nc,h,cL,az,aM,show (decide ((0:Int)<=2)&&decide ((2:Int)<7))=true from rfl,show Nat.beq (Int.toNat (2:Int)) 6=false from rfl,show Nat.beq (Int.toNat (2:Int)) 5=false from rfl,show Nat.beq (Int.toNat (2:Int)) 4=false from rfl,show Nat.beq (Int.toNat (2:Int)) 3=false from rfl,show Nat.beq (Int.toNat (2:Int)) 2=true from rfl,e];exact fin _ rfl
 ·have e:Bk (m,false,false,bk,[],0,k,o.isSome,o.getD 0,())=_:=ahu h bk k o;simp only[nc,h,cL,az,aM,show (decide ((0:Int)<=3)&&decide ((3:Int)<7))=true from rfl,show Nat.beq (Int.toNat (3:Int)) 6=false from rfl,show Nat.beq (Int.toNat (3:Int)) 5=false from rfl,show Nat.beq (Int.toNat (3:Int)) 4=false from rfl,show Nat.beq (Int.toNat (3:Int)) 3=true from rfl,e];exact fin _ rfl
 ·have e:Bl (m,false,false,bk,[],0,k,o.isSome,o.getD 0,())=_:=ahv h bk k o av (len (.inl h));simp only[nc,h,cL,az,aM,show (decide ((0:Int)<=4)&&decide ((4:Int)<7))=true from rfl,show Nat.beq (Int.toNat (4:Int)) 6=false from rfl,show Nat.beq (Int.toNat (4:Int)) 5=false from rfl,show Nat.beq (Int.toNat (4:Int)) 4=true from rfl,e];exact fin _ rfl
 ·have e:rE (m,false,false,bk,[],0,k,o.isSome,o.getD 0,())=_:=ahL h bk k o av (len (.inr h));simp only[nc,h,cL,az,aM,show (decide ((0:Int)<=5)&&decide ((5:Int)<7))=true from rfl,show Nat.beq (Int.toNat (5:Int)) 6=false from rfl,show Nat.beq (Int.toNat (5:Int)) 5=true from rfl,e];exact fin _ rfl
 ·have e:Bm (m,false,false,bk,[],0,k,o.isSome,o.getD 0,())=_:=ahw h bk k o;simp only[nc,h,cL,az,aM,show (decide ((0:Int)<=6)&&decide ((6:Int)<7))=true from rfl,show Nat.beq (Int.toNat (6:Int)) 6=true from rfl,e];exact fin _ rfl
theorem apS (a b:Option Int) (s:Src):iN a (iN b s)=iN (a.or b) s:=by
 cases s with
 |gen v n=>cases a<;>cases b<;>rfl
 |gone=>rfl
 |old k st=>cases a<;>cases b<;>cases st<;>rfl
theorem apT (s:Src):iN none s=s:=by
 cases s with
 |gen v n=>rfl
 |gone=>rfl
 |old k st=>cases st<;>rfl
theorem aah {m:a6} (hm:fM m) {k k':af} {st:Option Int} (h:en m k=.old k' st):k'.length<=k.length+4:=by
 rcases LC h with e |⟨aa,ad,al,bu,ag,aE⟩
 ·rw[e];omega
 ·have an:=hm.mv aa ad al bu;have de:=p1 _ an.from_;have:=D8 (f:=m.2.2.2.2.1) ag;rw[aE];omega
theorem aai: ∀{r:List a6},(∀m∈r,fM m)-> ∀{k k':af} {st:Option Int},eC r k=.old k' st->k'.length<=k.length+4*r.length
 |[],_,k,k',st,h=>by
  have h:Src.old k none=.old k' st:=h;injection h with ai aq
  rw[ai];simp
 |m::r,aA,k,k',st,h=>by
  unfold eC at h;cases e:en m k with
  |gen v n=>rw[e]at h;cases h
  |gone=>rw[e]at h;cases h
  |old k2 dC=>
   rw[e]at h;have h:iN dC (eC r k2)=.old k' st:=h;have de:=aah (aA m List.mem_cons_self) e;cases aq:eC r k2 with
   |gen v n=>rw[aq]at h;cases h
   |gone=>rw[aq]at h;cases h
   |old b8 w6=>
    rw[aq]at h;injection h with bc bz
    have:=aai (fun m hm=>aA m (List.mem_cons_of_mem _ hm)) aq;rw[<-bc,List.length_cons];omega
theorem K9 (m:a6) (r:List a6) (k:af):eC (m::r) k=match en m k with
  | .gen v n=>.gen v n
  | .gone=>.gone
  | .old k' st=>iN st (eC r k'):=rfl
theorem agZ (bk:af) (l:List a6) (ao: ∀m∈l,fM m) (aQ:l.length<=1000) (av:bk.length<=100000):
  yf (bk,l,())=some (lD bk (eC l.reverse bk),()):=by
 have b6:i64.wrap (((List.length l):Int)-1)=((l.length:Int)-1):=by rw[cU (by omega)]
 obtain ⟨R,kF⟩: ∃R:ub,(false,false,[],[],0,[],false,0,())=R:=⟨_,rfl⟩;obtain ⟨z,aa,ad⟩:=dY (b:=zm) (fun j (q:HG)=>(((l.length:Int)-1-(j:Int)),(0:Int),l,q)) l.length
  (fun j q=> ∃k o,q=(false,false,bk,[],0,k,o.isSome,o.getD 0,R)/\k.length<=bk.length+4*j/\eC l.reverse bk=iN o (eC (l.reverse.drop j) k))
  (fun z=>(∃hE:HG,z=.inl ((1:Int),l,hE)/\DX bk (eC l.reverse bk) hE.2.2.2.2.2.2.2.2)\/ ∃hE:HG,z=.inr ((0:Int),l,hE)/\DX bk (eC l.reverse bk) (hE.1,hE.2.1,hE.2.2.1,hE.2.2.2.1,hE.2.2.2.2.1,hE.2.2.2.2.2.1,hE.2.2.2.2.2.2.1,hE.2.2.2.2.2.2.2.1,())) (by omega)
  (fun j ay hE aN=>by
   obtain ⟨k,o,rfl,jQ,ha⟩:=aN;obtain ⟨i,ab⟩: ∃i:Nat,l.length-1-j=i:=⟨_,rfl⟩;have sZ:i<l.length:=by omega
   have N0:j<l.reverse.length:=by rw[List.length_reverse];exact ay
   have Oo:l.reverse[j]=l[i]:=by
    rw[List.getElem_reverse];congr 1
   have NO:l.reverse.drop j=l[i]::l.reverse.drop (j+1):=by rw[List.drop_eq_getElem_cons N0,Oo]
   have cW:((l.length:Int)-1-(j:Int))=(i:Int):=by omega
   have ai:(decide ((i:Int)>=(0:Int)))=true:=am (by omega);have aq:=ff i;have bc:(decide ((i:Int)<(List.length l:Int)))=true:=am (by omega);have bz:i64.wrap ((i:Int)-1)=((l.length:Int)-1-((j+1:Nat):Int)):=by rw[cU (by omega)];omega
   obtain ⟨c,p,bU,g1,g2⟩:=agF (i:Int) l[i] (ao _ (List.getElem_mem sZ)) bk k o R (by omega);rw[cW];have kD:nc ((i:Int),l[i],(0:Int),false,false,bk,[],0,k,o.isSome,o.getD 0,R.1,R.2.1,R.2.2.1,R.2.2.2.1,R.2.2.2.2.1,R.2.2.2.2.2.1,R.2.2.2.2.2.2.1,R.2.2.2.2.2.2.2.1,())=some (c,p,bU):=g1;simp only[zm,ai,aq,bc,az,b7,bQ,cq sZ,kD,bz];rw[NO,K9]at ha;rcases g2 with ⟨rfl,rfl,k',st,g3,rfl⟩|⟨rfl,rfl,g3,g4⟩
   ·left;rw[g3]at ha;have ha:eC l.reverse bk=iN o (iN st (eC (l.reverse.drop (j+1)) k')):=ha;have:=aah (ao _ (List.getElem_mem sZ)) g3;exact ⟨_,⟨k',o.or st,rfl,by omega,by rw[ha,apS]⟩,rfl⟩
   ·right;refine ⟨_,.inl ⟨bU,rfl,?_⟩,rfl⟩;have:eC l.reverse bk=iN o (en l[i] k):=by
     rw[ha];cases e:en l[i] k with
     |gen v n=>rfl
     |gone=>rfl
     |old k' st=>exact absurd e (g3 k' st)
    rw[this];exact g4)
  (fun hE aN=>by
   obtain ⟨k,o,rfl,jQ,ha⟩:=aN;have cW:((l.length:Int)-1-((l.length:Nat):Int))= -1:=by omega
   have ai:(decide ((-1:Int)>=(0:Int)))=false:=rfl;rw[cW];simp only[zm,ai,aM];refine ⟨_,.inr ⟨_,rfl,?_⟩,rfl⟩;rw[ha,List.drop_of_length_le (by rw[List.length_reverse];exact Nat.le_refl _)];show _=lD bk (.old k (o.or none));rw[p4];rfl)
  (false,false,bk,[],0,bk,false,0,R) ⟨bk,none,rfl,by omega,by rw[apT];rfl⟩
 have db:=aa;simp only[Int.natCast_zero,Int.sub_zero]at db;have aqZ:M1 (((l.length:Int)-1),(0:Int),l,false,false,bk,[],0,bk,false,0,false,false,[],[],0,[],false,0,())=some z:=by rw[kF];exact db
 simp only[yf,zE,Nk,b6,aqZ];rcases ad with ⟨hE,rfl,aE⟩|⟨hE,rfl,al⟩
 ·have a7:(decide ((1:Int)=0))=false:=rfl;have aY:(decide ((1:Int)=1))=true:=rfl;simp only[a7,aY,az,aM];exact congrArg (fun f=>some (f,())) aE
 ·have a7:(decide ((0:Int)=0))=true:=rfl;simp only[a7,az];exact congrArg (fun f=>some (f,())) al
end D
