import Derived.Test.YtmmmpanpbphkdaaGreatDoorXC
import Derived.Test.YtmmmpanpbphkdaaGreatDoorD
import Derived.KernelRfl
import Derived.Sort.AssemblyPlain
set_option linter.unusedVariables false
set_option linter.unusedSimpArgs false
set_option maxRecDepth 100000
open Go Go.X
open Go.IntKind (i64)
namespace D
theorem aX {p:Prop} [Decidable p] (h:p):decide p=true:=decide_eq_true h
theorem bm {p:Prop} [Decidable p] (h: ¬p):decide p=false:=decide_eq_false h
theorem cR {x:Int} (h: -9223372036854775808<=x/\x<9223372036854775808):i64.wrap x=x:=a28 h.1 h.2
theorem dR (i:Nat):bG ((0:Int)<=(i:Int)):=aX u
theorem e6 (i:Nat) (h:i<2^62):i64.wrap ((i:Int)+1)=((i+1:Nat):Int):=by rw[cR u];omega
theorem e3 {α:Type} {l:List α} {i:Nat} (h:i<l.length):bG (((i:Nat):Int)<((l.length):Int)):=aX u
theorem fD {α:Type} (l:List α):(decide (((l.length:Nat):Int)<((l.length):Int)))=false:=bm u
theorem b5 {α:Type} {l:List α} {i:Nat} {I:α} (h:i<l.length):l.getD i I=l[i]:=by simp[List.getD,h]
theorem ey:am=140737488355328:=rfl
def o4 {α σ ρ:Type} (step:σ->α->σ⊕ρ) (fin:σ->ρ):List α->σ->ρ
 |[],d=>fin d
 |a::l,d=>match step d a with
  | .inl t=>o4 step fin l t
  | .inr r=>r
theorem kc:jf=10^24:=rfl
theorem aiW {S ρ σ α:Type} {b:S->Option (S⊕ρ)} (mk:Nat->σ->S) (step:σ->α->σ⊕ρ) (fin:σ->ρ) (xs:List α) (Inv:Nat->σ->Prop) (hlen:xs.length<10^18)
  (q: ∀i (E:i<xs.length) d,Inv i d->(∃t,step d xs[i]=.inl t/\Inv (i+1) t/\b (mk i d)=some (.inl (mk (i+1) t)))\/(∃r,step d xs[i]=.inr r/\b (mk i d)=some (.inr r)))
  (G: ∀d,Inv xs.length d->b (mk xs.length d)=some (.inr (fin d))) (d:σ) (ah:Inv 0 d):b6 b (mk 0 d)=some (o4 step fin xs d):=by
 have key: ∀(k i:Nat) (d:σ),i+k=xs.length->Inv i d->fY b (k+1) (mk i d)=some (o4 step fin (xs.drop i) d):=by
  intro k
  induction k with
  |zero=>
   intro i d E a8;have E:i=xs.length:=u;subst E;simp only[fY,G d a8,List.drop_length,o4]
  |succ k aR=>
   intro i d E a8;have e5:i<xs.length:=u;rw[lZ e5,o4];rcases q i e5 d a8 with ⟨t,M,V,a1⟩|⟨r,M,V⟩
   ·rw[M];simp only[fY,a1];exact aR (i+1) t u V
   ·rw[M];simp only[fY,V]
 exact nU (n:=xs.length+1) (by rw[kc];omega) (key xs.length 0 d u ah)
theorem dG {S ρ σ:Type} {b:S->Option (S⊕ρ)} (mk:Nat->σ->S) (a7:Nat) (Inv:Nat->σ->Prop) (bA:ρ->Prop) (hlen:a7<10^18)
  (q: ∀i,i<a7-> ∀d,Inv i d->(∃t,Inv (i+1) t/\b (mk i d)=some (.inl (mk (i+1) t)))\/(∃r,bA r/\b (mk i d)=some (.inr r)))
  (G: ∀d,Inv a7 d-> ∃r,bA r/\b (mk a7 d)=some (.inr r)) (d:σ) (ah:Inv 0 d): ∃r,b6 b (mk 0 d)=some r/\bA r:=by
 have key: ∀(k i:Nat) (d:σ),i+k=a7->Inv i d-> ∃r,fY b (k+1) (mk i d)=some r/\bA r:=by
  intro k
  induction k with
  |zero=>
   intro i d E a8;have E:i=a7:=u;subst E;obtain ⟨r,s,e⟩:=G d a8;exact ⟨r,by simp only[fY,e],s⟩
  |succ k aR=>
   intro i d E a8;rcases q i u d a8 with ⟨t,V,a1⟩|⟨r,M,V⟩
   ·obtain ⟨r,e,s⟩:=aR (i+1) t u V;exact ⟨r,by simp only[fY,a1];exact e,s⟩
   ·exact ⟨r,by simp only[fY,V],M⟩
 obtain ⟨r,e,s⟩:=key a7 0 d u ah;exact ⟨r,nU (n:=a7+1) (by rw[kc];omega) e,s⟩
theorem eK {α:Type} {l:List α} {i:Nat} (h:i<l.length):l.take (i+1)=l.take i++[l[i]]:=by rw[List.take_add_one,hr h];rfl
theorem iC: ∀a,Op.bytesLess a a=false
 |[]=>rfl
 |a::x=>by simp[Op.bytesLess,iC x]
theorem gK: ∀{a b c},Op.bytesLess a b=true->Op.bytesLess b c=true->Op.bytesLess a c=true
 |[],[],_,h,_=>by simp[Op.bytesLess]at h
 |_::_,[],_,h,_=>by simp[Op.bytesLess]at h
 |_,_::_,[],_,h=>by simp[Op.bytesLess]at h
 |[],_::_,_::_,_,_=>rfl
 |a::x,b::y,c::z,h,g=>by
  simp only[Op.bytesLess,Bool.or_eq_true,dT,bQ,beq_iff_eq]at h g ⊢;rcases h with h |⟨rfl,h⟩
  ·rcases g with g |⟨rfl,g⟩
   ·exact .inl (UInt8.lt_trans h g)
   ·exact .inl h
  ·rcases g with g |⟨rfl,g⟩
   ·exact .inl g
   ·exact .inr ⟨rfl,gK h g⟩
theorem ih: ∀a b,Op.bytesLess a b=true\/a=b\/Op.bytesLess b a=true
 |[],[]=>.inr (.inl rfl)
 |[],_::_=>.inl rfl
 |_::_,[]=>.inr (.inr rfl)
 |a::x,b::y=>by
  simp only[Op.bytesLess,Bool.or_eq_true,dT,bQ,beq_iff_eq,List.cons.injEq];rcases UInt8.lt_or_lt_of_ne (a:=a) (b:=b)|>λh=>(Decidable.em (a=b)).elim (λe=>Or.inl e) (λe=>Or.inr (h e)) with h |h |h
  ·subst h;rcases ih x y with h |h |h
   ·exact .inl (.inr ⟨rfl,h⟩)
   ·exact .inr (.inl ⟨rfl,h⟩)
   ·exact .inr (.inr (.inr ⟨rfl,h⟩))
  ·exact .inl (.inl h)
  ·exact .inr (.inr (.inl h))
theorem j3 {a b} (h:Op.bytesLess a b=true):Op.bytesLess b a=false:=by
 cases L:Op.bytesLess b a
 ·rfl
 ·have:=gK h L;rw[iC]at this;cases this
theorem nj {a b} (h:Op.bytesLess a b=true):a≠b:=by rintro rfl;rw[iC]at h;cases h
theorem ab8 {S ρ:Type} {b:S->Option (S⊕ρ)} (μ:S->Nat) (Inv:S->Prop) (bA:ρ->Prop)
  (h: ∀d,Inv d->(∃t,b d=some (.inl t)/\Inv t/\μ t<μ d)\/(∃r,b d=some (.inr r)/\bA r)) (d:S) (ah:Inv d) (hm:μ d<10^20): ∃r,b6 b d=some r/\bA r:=by
 have key: ∀n d,μ d<n->Inv d-> ∃r,fY b n d=some r/\bA r:=by
  intro n
  induction n with
  |zero=>intro d h;omega
  |succ n aR=>
   intro d aO E;rcases h d E with ⟨t,e,it,lt⟩|⟨r,e,s⟩
   ·obtain ⟨r,V,s⟩:=aR t u it;exact ⟨r,by simp only[fY,e,V],s⟩
   ·exact ⟨r,by simp only[fY,e],s⟩
 obtain ⟨r,e,s⟩:=key (μ d+1) d u ah;exact ⟨r,nU (n:=μ d+1) (by rw[kc];omega) e,s⟩
section
variable {α:Type} (key:α->N)
def cO (l:List α):Prop:=l.Pairwise λa b=>Op.bytesLess (key a) (key b)=true
def dP (k:N):List α->Nat
 |[]=>0
 |a::l=>if Op.bytesLess (key a) k=true then dP k l+1 else 0
def hY (x:α):List α->List α
 |[]=>[x]
 |a::l=>if Op.bytesLess (key x) (key a)=true then x::a::l else a::hY x l
def iw (k:N) (l:List α):List α:=l.filter λa=> !decide (key a=k)
variable {key}
theorem cO.tail {a:α} {l:List α} (h:cO key (a::l)):cO key l:=(List.pairwise_cons.1 h).2
theorem cO.head {a:α} {l:List α} (h:cO key (a::l)): ∀b∈l,Op.bytesLess (key a) (key b)=true:=(List.pairwise_cons.1 h).1
theorem qF (k:N): ∀l:List α,dP key k l<=l.length
 |[]=>ca _
 |a::l=>by
  unfold dP;split
  ·have:=qF k l;simp;omega
  ·simp
theorem PN (k:N): ∀(l:List α) (i:Nat) (h:i<l.length),i<dP key k l->Op.bytesLess (key l[i]) k=true
 |[],i,h,_=>by simp at h
 |a::l,i,h,E=>by
  unfold dP at E;split at E
  ·rename_i aV;cases i with
   |zero=>exact aV
   |succ i=>exact PN k l i (by simpa using h) u
  ·omega
theorem PM (k:N): ∀(l:List α),cO key l-> ∀(i:Nat) (h:i<l.length),dP key k l<=i->Op.bytesLess (key l[i]) k=false
 |[],_,i,h,_=>by simp at h
 |a::l,ah,i,h,E=>by
  unfold dP at E;split at E
  ·rename_i aV;cases i with
   |zero=>omega
   |succ i=>exact PM k l ah.tail i (by simpa using h) u
  ·rename_i aV;have aV:Op.bytesLess (key a) k=false:=by simpa using aV
   cases i with
   |zero=>exact aV
   |succ i=>
    have ad:i<l.length:=by simpa using h
    have q:=ah.head l[i] (dI ad);cases L:Op.bytesLess (key (a::l)[i+1]) k
    ·rfl
    ·have:=gK q L;rw[aV]at this;cases this
theorem abA (k:N) (l:List α) (ah:cO key l) (i:Nat) (E:i<=l.length) (q: ∀(m:Nat) (h:m<l.length),m<i->Op.bytesLess (key l[m]) k=true) (G: ∀(m:Nat) (h:m<l.length),i<=m->Op.bytesLess (key l[m]) k=false):i=dP key k l:=by
 have ad:=qF (key:=key) k l;rcases Nat.lt_trichotomy i (dP key k l) with h |h |h
 ·have a:=G i u (ca _);have b:=PN (key:=key) k l i u h;rw[a]at b;cases b
 ·exact h
 ·have a:=q (dP key k l) u h;have b:=PM k l ah (dP key k l) u (ca _);rw[a]at b;cases b
def ha (k:N) (l:List α):Bool:=l.any λa=>decide (key a=k)
theorem adt (k:N): ∀(l:List α),cO key l-> ∀(h:dP key k l<l.length),ha (key:=key) k l=decide (key l[dP key k l]=k)
 |[],_,h=>by simp at h
 |a::l,ah,h=>by
  unfold dP at h ⊢;split
  ·rename_i aV;rw[if_pos aV]at h;have cw:key a≠k:=nj aV;have:=adt k l ah.tail (by simpa using h);simp only[ha,List.any_cons,decide_eq_false cw,Bool.false_or];exact this
  ·rename_i aV;simp only[ha,List.any_cons,List.getElem_cons_zero];by_cases af:key a=k
   ·simp[af]
   ·have:(l.any λa=>decide (key a=k))=false:=by rw[List.any_eq_false];intro b L;have q:=ah.head b L;simp only[dT];intro aus;rw[aus]at q;exact aV q
    rw[this];simp[af]
theorem O8 (k:N): ∀(l:List α),dP key k l=l.length->ha (key:=key) k l=false
 |[],_=>rfl
 |a::l,h=>by
  unfold dP at h;split at h
  ·rename_i aV;have cw:key a≠k:=nj aV;have:=O8 k l (by simpa using h);simp only[ha,List.any_cons,decide_eq_false cw,Bool.false_or];exact this
  ·simp at h
theorem Gu (k:N) (l:List α) (h:ha (key:=key) k l=false):iw key k l=l:=by unfold iw;rw[List.filter_eq_self];intro a aV;unfold ha at h;rw[List.any_eq_false]at h;simpa using h a aV
theorem UO {x:α}: ∀(l:List α),cO key l->ha (key:=key) (key x) l=false->l.take (dP key (key x) l)++[x]++l.drop (dP key (key x) l)=hY key x l
 |[],_,_=>rfl
 |a::l,ah,aO=>by
  unfold dP hY;simp only[ha,List.any_cons,Bool.or_eq_false_iff,decide_eq_false_iff_not]at aO;have cw:key a≠key x:=aO.1;rcases ih (key a) (key x) with h |h |h
  ·rw[if_pos h,if_neg (by rw[j3 h];simp)];have:=UO l ah.tail aO.2;simp only[List.take_succ_cons,List.drop_succ_cons,List.cons_append];rw[this]
  ·exact absurd h cw
  ·rw[if_pos h,if_neg (by rw[j3 h];simp)];simp
theorem ald {k:N} {l:List α} (h: ∀b∈l,Op.bytesLess k (key b)=true):iw key k l=l:=by unfold iw;rw[List.filter_eq_self];intro a aV;have:=nj (h a aV);simp only[eT,decide_eq_false_iff_not];exact λe=>this e.symm
theorem akp {x:α} {l:List α} (h: ∀b∈l,Op.bytesLess (key x) (key b)=true):hY key x l=x::l:=by
 cases l with
 |nil=>rfl
 |cons a l=>unfold hY;rw[if_pos (h a aU)]
theorem U9 {x:α}: ∀(l:List α),cO key l->ha (key:=key) (key x) l=true->l.set (dP key (key x) l) x=hY key x (iw key (key x) l)
 |[],_,aO=>by simp[ha]at aO
 |a::l,ah,aO=>by
  unfold dP;rcases ih (key a) (key x) with h |h |h
  ·have cw:key a≠key x:=nj h;simp only[ha,List.any_cons,decide_eq_false cw,Bool.false_or]at aO;have:=U9 l ah.tail aO;rw[if_pos h,List.set_cons_succ,this];have e:iw key (key x) (a::l)=a::iw key (key x) l:=by simp[iw,cw]
   rw[e]
   conv=>rhs;unfold hY
   rw[if_neg (by rw[j3 h];simp)]
  ·have bu: ∀b∈l,Op.bytesLess (key x) (key b)=true:=λb L=>by rw[<-h];exact ah.head b L
   rw[if_neg (by rw[h,iC];simp),List.set_cons_zero];have e:iw key (key x) (a::l)=iw key (key x) l:=by simp[iw,h]
   rw[e,ald bu,akp bu]
  ·exfalso;have cw:key a≠key x:=λe=>nj h e.symm
   simp only[ha,List.any_cons,decide_eq_false cw,Bool.false_or,List.any_eq_true,dT]at aO;obtain ⟨b,L,e⟩:=aO;have q:=gK h (ah.head b L);rw[e,iC]at q;cases q
theorem AU {x b:α}: ∀{l:List α},b∈hY key x l↔b=x\/b∈l
 |[]=>by simp[hY]
 |a::l=>by
  unfold hY;split
  ·simp
  ·simp only[e7,AU (l:=l)];constructor
   ·rintro (h |h |h)
    ·exact .inr (.inl h)
    ·exact .inl h
    ·exact .inr (.inr h)
   ·rintro (h |h |h)
    ·exact .inr (.inl h)
    ·exact .inl h
    ·exact .inr (.inr h)
theorem Gi {x:α}: ∀(l:List α),(hY key x l).length=l.length+1
 |[]=>rfl
 |a::l=>by
  unfold hY;split
  ·rfl
  ·simp[Gi l]
theorem cO.ins {x:α}: ∀{l:List α},cO key l->ha (key:=key) (key x) l=false->cO key (hY key x l)
 |[],_,_=>by simp[hY,cO]
 |a::l,ah,aO=>by
  simp only[ha,List.any_cons,Bool.or_eq_false_iff,decide_eq_false_iff_not]at aO;unfold hY;split
  ·rename_i h;refine List.pairwise_cons.2 ⟨λb L=> ?_,ah⟩;rcases e7.1 L with rfl |L
   ·exact h
   ·exact gK h (ah.head b L)
  ·rename_i h;have G:Op.bytesLess (key a) (key x)=true:=by
    rcases ih (key a) (key x) with ab |ab |ab
    ·exact ab
    ·exact absurd ab aO.1
    ·exact absurd ab h
   refine List.pairwise_cons.2 ⟨λb L=> ?_,cO.ins ah.tail aO.2⟩;rcases AU.1 L with rfl |L
   ·exact G
   ·exact ah.head b L
theorem cO.wo {k:N} {l:List α} (h:cO key l):cO key (iw key k l):=List.Pairwise.filter _ h
theorem adu (k:N) (l:List α):ha (key:=key) k (iw key k l)=false:=by unfold ha iw;rw[List.any_eq_false];intro a aV;have:=(e8.1 aV).2;simpa using this
theorem ale {k:N} (l:List α):(iw key k l).length<=l.length:=h0 _ _
end
open Go
theorem ajW:M7 ()=some (true,()):=aC
open Go
theorem aaR {p:b9} {i:Nat} (h:i<p.length):mt ((p,()),(i:Int),())=some (p[i].1,()):=by have q:bG (((i:Nat):Int)>=0):=aX u;have G:bG (((i:Nat):Int)<(p.length:Int)):=aX u;have ab:=dR i;simp only[mt,q,G,ab,an,bN,bE,b5 h]
theorem abr {p:b9} {i:Nat} (h:i<p.length) (hu:p[i].1=true) (ad:p[i].2.1=false):ik ((p,()),(i:Int),())=some (p[i].2.2.2.1,0,()):=by have G:bG (((i:Nat):Int)<(p.length:Int)):=aX u;have ab:=dR i;simp only[ik,aaR h,hu,ad,G,ab,an,ay,cL,bN,bE,b5 h]
theorem Ob {p:b9} {i:Nat} (h:i<p.length):zH ((p,()),(i:Int),())=some (p[i].1,()):=by have q:bG (((i:Nat):Int)>=0):=aX u;have G:bG (((i:Nat):Int)<(p.length:Int)):=aX u;have ab:=dR i;simp only[zH,q,G,ab,an,bN,bE,b5 h]
theorem aru {p:b9} {i:Nat} (h:i<p.length):Kc ((i:Int),p,())=some (p[i].1,p,()):=by have q:bG (((i:Nat):Int)>=0):=aX u;have G:bG (((i:Nat):Int)<(p.length:Int)):=aX u;have ab:=dR i;simp only[Kc,q,G,ab,an,bN,bE,b5 h]
theorem as2 {p:b9} {i:Nat} (h:i<p.length) (hu:p[i].1=true) (ad:p[i].2.1=false):zL ((p,()),(i:Int),())=some (p[i].2.2.2.1,0,()):=by have G:bG (((i:Nat):Int)<(p.length:Int)):=aX u;have ab:=dR i;simp only[zL,Ob h,hu,ad,G,ab,an,ay,cL,bN,bE,b5 h]
def mk (Q:cK) (r:Nat->Int):b9:=Q.mapIdx λi n=>(true,false,r i,n,())
theorem lq (Q:cK) (r:Nat->Int):(mk Q r).length=Q.length:=by simp[mk]
theorem mE {Q:cK} {r:Nat->Int} {i:Nat} (h:i<(mk Q r).length):(mk Q r)[i]=(true,false,r i,Q[i]'(by rw[<-lq Q r];exact h),()):=by simp[mk]
theorem xe {Q:cK} {r:Nat->Int} {i:Nat} (h:i<Q.length) (I:iM):List.getD (mk Q r) i I=(true,false,r i,Q[i],()):=by rw[b5 (by rw[lq];exact h),mE]
theorem US {Q:cK} {r:Nat->Int} {i:Nat} (h:i<Q.length) (v:Int):(mk Q r).set i (true,false,v,Q[i],())=mk Q (λj=>if j=i then v else r j):=by
 apply List.ext_getElem
 ·simp[mk]
 ·intro j q G;rw[mE,List.getElem_set];split
  ·rename_i e;subst e;simp
  ·rename_i e;rw[mE];simp[Ne.symm e]
theorem AV {Q:cK} {r gT:Nat->Int} (h: ∀i,i<Q.length->r i=gT i):mk Q r=mk Q gT:=by
 apply List.ext_getElem
 ·simp[mk]
 ·intro j q G;rw[mE,mE,h j (by rw[<-lq Q r];exact q)]
theorem aku (Q:cK) (n:cE) (r:Nat->Int):mk Q r++[(true,false,r Q.length,n,())]=mk (Q++[n]) r:=by simp[mk,List.mapIdx_append]
theorem ari {Q:cK} {r:Nat->Int} {i:Nat} (h:i<Q.length):ik ((mk Q r,()),(i:Int),())=some (Q[i],0,()):=by
 have cB:i<(mk Q r).length:=by rw[lq];exact h
 rw[abr cB (by rw[mE]) (by rw[mE]),mE]
theorem Ow {Q:cK} {r:Nat->Int} {i:Nat} (h:i<Q.length):zL ((mk Q r,()),(i:Int),())=some (Q[i],0,()):=by
 have cB:i<(mk Q r).length:=by rw[lq];exact h
 rw[as2 cB (by rw[mE]) (by rw[mE]),mE]
theorem abV {p:b9} (h:p.length<=10^5):Ei ((p,()),())=some (p,()):=by have q:bG ((List.length ([]:List (iM))+p.length)*136<=am):=aX (by rw[ey];simp;omega);simp only[Ei,q,an,List.nil_append]
def bM (ks:dA):ct:=ks.map λ(k:Nat)=>(k:Int)
theorem fO (ks:dA):(bM ks).length=ks.length:=by simp[bM]
theorem k9 {ks:dA} {i:Nat} (h:i<ks.length):List.getD (bM ks) i 0=((ks[i]:Nat):Int):=by rw[b5 (by rw[fO];exact h)];simp[bM]
theorem aj2 {Q:cK} {r:Nat->Int} {n:cE} {ks:dA} (af:n.2.2.1=bM ks) (ar: ∀k∈ks,k<Q.length) (ad:ks.length<=1000):
  Nw (0,(mk Q r,()),n,[],0,0,())=some (.inr ((mk Q r,()),n,[],0,0,())):=by
 obtain ⟨z,q,G⟩:=dG (b:=wt) (λi (_:H)=>((i:Int),(mk Q r,()),n,[],0,0,())) ks.length (λ_ _=>True) (λz=>z=.inr ((mk Q r,()),n,[],0,0,())) u
  (λi E _ _=>by
   left;refine ⟨(),trivial,?_⟩;have M:bG (((i:Nat):Int)<((n.2.2.1.length):Int)):=aX (by rw[af,fO];omega);have V:=dR i;have a1:=e6 i u;have dN:ks[i]<(mk Q r).length:=by rw[lq];exact ar _ (dI E)
   have fV:n.2.2.1.getD i 0=((ks[i]:Nat):Int):=by rw[af,k9 E]
   simp only[wt,M,V,an,bN,bE,fV,Ob dN,mE,cL,ay,a1])
  (λ_ _=>by have M:(decide (((ks.length:Nat):Int)<((n.2.2.1.length):Int)))=false:=bm (by rw[af,fO];omega);exact ⟨_,rfl,by simp only[wt,M,ay]⟩) () trivial
 subst G;exact q
theorem aj3 {Q:cK} {r:Nat->Int} {n:cE} (ad:Q.length<=1000):
  Nx (0,(mk Q r,()),n,[],0,0,())=some (.inl ((Q.length:Int),(mk Q r,()),n,[],0,0,())):=by
 obtain ⟨z,q,G⟩:=dG (b:=Eg) (λi (_:H)=>((i:Int),(mk Q r,()),n,[],0,0,())) Q.length (λ_ _=>True) (λz=>z=.inl ((Q.length:Int),(mk Q r,()),n,[],0,0,())) u
  (λi E _ _=>by left;refine ⟨(),trivial,?_⟩;have M:bG (((i:Nat):Int)<((List.length (mk Q r)):Int)):=aX (by rw[lq];omega);have V:=dR i;have a1:=e6 i u;simp only[Eg,M,V,an,bN,bE,xe E,a1])
  (λ_ _=>by have M:(decide (((Q.length:Nat):Int)<((List.length (mk Q r)):Int)))=false:=bm (by rw[lq];omega);exact ⟨_,rfl,by simp only[Eg,M,ay]⟩) () trivial
 subst G;exact q
theorem aj4 {Q:cK} {n:cE} {ks:dA} {c:Int} (af:n.2.2.1=bM ks) (ar: ∀k∈ks,k<Q.length) (aO:ks.Nodup) (ad:ks.length<=1000):
  Ny (c,0,n,[],0,0,mk Q (λ_=>1),())=some (.inl (c,[],0,0,mk Q (λj=>if j∈ks then 2 else 1),())):=by
 obtain ⟨z,q,G⟩:=dG (b:=Eh) (λi (l:b9)=>(c,(i:Int),n,[],0,0,l,())) ks.length (λi l=>l=mk Q (λj=>if j∈ks.take i then 2 else 1)) (λz=>z=.inl (c,[],0,0,mk Q (λj=>if j∈ks then 2 else 1),())) u
  (λi E l ad=>by
   left;subst ad;refine ⟨_,rfl,?_⟩;have gf:ks[i]<Q.length:=ar _ (dI E);have M:bG (((i:Nat):Int)<((n.2.2.1.length):Int)):=aX (by rw[af,fO];omega);have V:=dR i;have a1:=e6 i u;have bp:bG ((0:Int)<=((ks[i]:Nat):Int)):=aX u;have cI: ∀r,(decide (((ks[i]:Nat):Int)<(List.length (mk Q r):Int)))=true:=λr=>aX (by rw[lq];omega)
   have mq:ks[i]∉ks.take i:=λhm=>by have G:=eK E;have dK:(ks.take (i+1)).Nodup:=aO.sublist (List.take_sublist _ _);rw[G,List.nodup_append]at dK;exact dK.2.2 _ hm _ aU rfl
   have fV:n.2.2.1.getD i 0=((ks[i]:Nat):Int):=by rw[af,k9 E]
   simp only[Eh,M,V,an,bN,bE,fV,bp,cI,xe gf,a1,if_neg mq];have c9:i64.wrap ((1:Int)+1)=2:=by rw[cR u];omega
   have kK:mk Q (λj=>if j=ks[i] then 2 else if j∈ks.take i then 2 else 1)=mk Q (λj=>if j∈ks.take (i+1) then 2 else 1):=AV λj _=>by
    have hm:j∈ks.take (i+1)↔(j∈ks.take i\/j=ks[i]):=by rw[eK E,dp,gv]
    by_cases ak:j=ks[i]
    ·rw[if_pos ak,if_pos (hm.2 (.inr ak))]
    ·rw[if_neg ak];by_cases G:j∈ks.take i
     ·rw[if_pos G,if_pos (hm.2 (.inl G))]
     ·rw[if_neg G,if_neg (λh=>(hm.1 h).elim G ak)]
   rw[c9,US gf,kK])
  (λl ad=>by subst ad;have M:(decide (((ks.length:Nat):Int)<((n.2.2.1.length):Int)))=false:=bm (by rw[af,fO];omega);exact ⟨_,rfl,by simp only[Eh,M,ay,ew]⟩) (mk Q (λ_=>1)) (AV λj _=>aU)
 subst G;exact q
theorem UT {Q:cK} {n:cE} {ks:dA} (af:n.2.2.1=bM ks) (ar: ∀k∈ks,k<Q.length) (aO:ks.Nodup) (ad:ks.length<=1000) (im:Q.length<=900):
  tV ((mk Q (λ_=>1),()),n,())=some (((mk (Q++[n]) (λj=>if j∈ks then 2 else 1),()),((Q.length:Int),(0,()))),()):=by
 have M:(decide (((Q.length:Nat):Int)>=4096))=false:=bm u;have hlen:(mk Q (λ_=>1)).length=Q.length:=lq _ _;have V:bG (((Q.length:Nat):Int)=((List.length (mk Q (λ_=>1))):Int)):=aX (by rw[hlen]);have a1: ∀I:iM,(decide ((List.length (mk Q (λ_=>1))+List.length ([I]:List (iM)))*136<=am))=true:=λI=>aX (by rw[hlen,ey];simp;omega)
 have bp:bG ((0:Int)<=((Q.length:Nat):Int)):=aX u;have cI: ∀I:iM,(decide (((Q.length:Nat):Int)<(List.length (mk Q (λ_=>1)++[I]):Int)))=true:=λI=>aX (by simp[hlen];omega)
 have c9: ∀I:iM,List.set (mk Q (λ_=>1)++[I]) Q.length (true,false,1,n,())=mk (Q++[n]) (λ_=>1):=λI=>by rw[<-aku,<-hlen,List.set_append_right _ _ (ca _)];simp
 have G:=aj4 (Q:=Q++[n]) (n:=n) (ks:=ks) (c:=(Q.length:Int)) af (λk af=>by have:=ar k af;simp;omega) aO ad;simp only[tV,aj2 af ar ad,aj3 (show Q.length<=1000 by omega),M,ay,abV (show (mk Q (λ_=>1)).length<=10^5 by omega),V,a1,an,Nv,bp,cI,bN,bE,c9,G]
theorem akf {Q:cK} {r:Nat->Int} {k:Nat} (af:k<Q.length) (ar:r k=2):
  MB ([(k:Int)],[],mk Q r,())=some (.inl ([],mk Q (λj=>if j=k then 1 else r j),())):=by
 obtain ⟨z,q,G⟩:=dG (b:=DZ) (λi (s:ct×b9)=>(s.1,[],s.2,())) 1 (λi s=>(i=0/\s=([(k:Int)],mk Q r))\/(i=1/\s=([],mk Q (λj=>if j=k then 1 else r j))))
  (λz=>z=.inl ([],mk Q (λj=>if j=k then 1 else r j),())) u
  (λi E s aN=>by
   left;obtain ⟨rfl,rfl⟩:=aN.resolve_right u;refine ⟨_,.inr ⟨rfl,rfl⟩,?_⟩;have e1:k<(mk Q r).length:=by rw[lq];exact af
   have M:=dR k;have V: ∀gT,(decide ((k:Int)<(List.length (mk Q gT):Int)))=true:=λgT=>aX (by rw[lq];omega)
   have a1:i64.wrap ((2:Int)-1)=1:=by rw[cR u];omega
   have bp:List.drop (Int.toNat (1:Int)) (List.take (Int.toNat (List.length [(k:Int)]:Int)) [(k:Int)])=[]:=rfl;have cI:List.getD [(k:Int)] 0 0=(k:Int):=rfl;have c9:bG ((((List.length [(k:Int)]):Int):Int)>(0:Int)):=rfl;have fV:bG (((0:Int):Int)<(List.length [(k:Int)]:Int)):=rfl;have kK:(decide (((1:Int):Int)<=(List.length [(k:Int)]:Int))&&decide (((List.length [(k:Int)]:Int):Int)<=(List.length [(k:Int)]:Int)))=true:=rfl;have nC:(decide ((1:Int)=(0:Int)))=false:=rfl;simp only[DZ,c9,fV,kK,an,bp,cI,aru e1,mE,cL,ay,M,V,bN,bE,xe af,ar,a1,US af,if_true,nC];rfl)
  (λs aN=>by obtain ⟨-,rfl⟩:=aN.resolve_left u;have c9:(decide ((((List.length ([]:ct)):Int):Int)>(0:Int)))=false:=rfl;exact ⟨_,rfl,by simp only[DZ,c9,ay]⟩) ([(k:Int)],mk Q r) (.inl ⟨rfl,rfl⟩)
 subst G;exact q
theorem akg {Q:cK} {r:Nat->Int} {k:Nat} (af:k<Q.length) (ar:r k=2) (ad:Q.length<=1000):
  zG ((mk Q r,()),(k:Int),())=some ((mk Q (λj=>if j=k then 1 else r j),()),0,()):=by
 have e1:k<(mk Q r).length:=by rw[lq];exact af
 simp only[zG,Ob e1,mE,cL,ay,abV (show (mk Q r).length<=10^5 by rw[lq];omega),akf af ar]
def ch (d:aL) (k:N):Bool:= !(Op.bytesLess k d.1)&&(decide (d.2.1=[])||Op.bytesLess k d.2.1)
theorem UM (d:aL) (k:N):AJ (d,k,())=some (ch d k,()):=by
 simp only[AJ,ch];cases q:Op.bytesLess k d.1
 ·cases G:decide (d.2.1=[])
  ·simp[G]
  ·simp[G]
 ·simp
def inS (d:aL) (t:aj):aj:=t.filter λp=>ch d p.1
theorem si (d:aL) (t:aj):(inS d t).length<=t.length:=h0 _ _
theorem ajR (t:aj) (d:aL) (ad:t.length<=10^12):Fv (t,d,())=some (inS d t,()):=by
 obtain ⟨z,q,G⟩:=dG (b:=Dz) (λi (out:aj)=>(t,(i:Int),d,out,())) t.length (λi out=>out=inS d (t.take i)) (λz=>z=.inl (inS d t,())) u
  (λi E out W=>by
   left;subst W;refine ⟨_,rfl,?_⟩;have M:=e3 (i:=i) (l:=t) u;have V:=dR i;have a1:=e6 i u;have bp: ∀p:ck,(decide ((List.length (inS d (t.take i))+List.length ([p]:List (ck)))*40<=am))=true:=λp=>aX (by have:=si d (t.take i);rw[ey];simp at this ⊢;omega)
   have cI:inS d (t.take (i+1))=inS d (t.take i)++(bif ch d t[i].1 then [t[i]] else []):=by rw[eK E];unfold inS;rw[List.filter_append];cases h:ch d t[i].1<;>simp[h]
   rw[cI];simp only[Dz,M,V,an,bN,bE,b5 E,UM];cases h:ch d t[i].1
   ·simp only[ay,a1,List.append_nil]
   ·simp only[an,a1,bp])
  (λout W=>by subst W;have M:=fD t;exact ⟨_,rfl,by simp only[Dz,M,ay,ew]⟩) [] rfl
 subst G;have dr:L2 (t,0,d,[],())=some (.inl (inS d t,())):=q;simp only[Fv,dr]
def uR (p:ck) (t:aj):aj:=t.filter λx=> !decide (x.1=p.1)
def ins (p:ck):aj->aj
 |[]=>[p]
 |x::t=>bif Op.bytesLess x.1 p.1 then x::ins p t else p::uR p (x::t)
abbrev Vm:=(Bool×ck×aj×H)⊕H
def xD (p:ck) (d:Bool×aj) (x:ck):(Bool×aj)⊕Vm:=
 let i:=d.1|| !(Op.bytesLess x.1 p.1)
 let o:=bif !d.1&& !(Op.bytesLess x.1 p.1) then d.2++[p] else d.2
 .inl (i,bif !decide (x.1=p.1) then o++[x] else o)
def xC (p:ck) (d:Bool×aj):Vm:=.inl (d.1,p,d.2,())
theorem acd (p:ck): ∀(t out:aj),o4 (xD p) (xC p) t (true,out)=.inl (true,p,out++uR p t,())
 |[],out=>by simp[o4,uR,xC]
 |x::t,out=>by simp only[o4,xD,Bool.true_or,cL,Bool.false_and,ay];rw[acd p t];by_cases h:x.1=p.1<;>simp[uR,h]
theorem abu (p:ck): ∀(t out:aj),∃b o,o4 (xD p) (xC p) t (false,out)=.inl (b,p,o,())/\(bif b then o else o++[p])=out++ins p t
 |[],out=>⟨false,out,rfl,rfl⟩
 |x::t,out=>by
  simp only[o4,xD,Bool.false_or,cU,Bool.true_and];cases h:Op.bytesLess x.1 p.1
  ·simp only[cU,an];rw[acd];refine ⟨_,_,rfl,?_⟩;have e:ins p (x::t)=p::uR p (x::t):=by simp only[ins,h,ay]
   rw[e];by_cases G:x.1=p.1<;>simp[uR,G]
  ·have G:x.1≠p.1:=nj h;simp only[cL,ay,G,decide_false,cU,an];obtain ⟨b,o,M,V⟩:=abu p t (out++[x]);refine ⟨b,o,M,?_⟩;rw[V];simp[ins,h]
theorem asm (p:ck) (t:aj):(uR p t).length<=t.length:=h0 _ _
theorem Py (p:ck): ∀t,(ins p t).length<=t.length+1
 |[]=>by simp[ins]
 |x::t=>by have q:=Py p t;have G:=asm p (x::t);cases h:Op.bytesLess x.1 p.1<;>simp[ins,h]at G ⊢ <;>omega
theorem ajQ (t:aj) (p:ck) (ad:t.length<10^6):Gd (t,p,())=some (ins p t,()):=by
 have Rr:Nt (t,false,(0:Int),p,([]:aj),())=some (o4 (xD p) (xC p) t (false,[])):=by
  have:=aiW (b:=Ef) (λer (d:Bool×aj)=>(t,d.1,(er:Int),p,d.2,())) (xD p) (xC p) t (λer d=>d.2.length<=er+(if d.1 then 1 else 0)) u (λer h d ah=>by
    obtain ⟨i,out⟩:=d;have W:out.length<=er+1:=by simp only at ah;split at ah<;>omega
    left;refine ⟨_,rfl,?_,?_⟩
    ·cases i<;>cases L:Op.bytesLess t[er].1 p.1<;>by_cases af:t[er].1=p.1<;>simp[L,af]at ah ⊢ <;>omega
    ·simp-implicitDefEqProofs (disch:=omega) only[Ef,TR,TS,aX,bm,cR,b5,an,ay,bN,bE,ey,iy,List.length_nil,eF,Int.natCast_add,Int.cast_ofNat_Int];cases i<;>cases L:Op.bytesLess t[er].1 p.1<;>by_cases af:t[er].1=p.1<;>simp-implicitDefEqProofs (disch:=omega) [L,af,aX]) (λd ah=>by
    unfold Ef;simp-implicitDefEqProofs (disch:=omega) only[aX,bm,an,ay,xC]) (false,[]) aU
  exact this
 obtain ⟨b,o,M,V⟩:=abu p t [];unfold Gd;simp only[Rr,M];simp only[List.nil_append]at V;have hlen:=Py p t;cases b
 ·simp only[ay]at V;have:o.length+1<=t.length+1:=by rw[<-V]at hlen;simpa using hlen
  simp-implicitDefEqProofs (disch:=omega) only[cU,an,aX,ey,iy,List.length_nil,V]
 ·simp only[an]at V;simp only[cL,ay,V]
def l0 (n:Int):N:=((zJ (n,())).map (·.1)).getD []
def ac8 (n:Nat):Bool:=match zJ ((n:Int),()) with
 |some (k,_)=>decide (k.length<=11)&&decide (1<=k.length)
 |none=>false
theorem asL: ∀n:Fin 256,ac8 n.val=true:=by decide+kernel
theorem Oq (n:Int) (bY:0<=n) (q:n<256):zJ (n,())=some (l0 n,())/\(l0 n).length<=11/\1<=(l0 n).length:=by
 obtain ⟨m,rfl⟩:=Int.eq_ofNat_of_zero_le bY;have:=asL ⟨m,u⟩;unfold ac8 at this;unfold l0;simp only at this;cases h:zJ ((m:Int),()) with
 |none=>simp[h]at this
 |some x=>
  obtain ⟨k,ae⟩:=x;simp[h]at this;simp;omega
def Al (n:Int):N:=List.getD [[],[118],[119,120],[120,121,122]] (n%4).toNat []
def oR (x:bi):ck:=(l0 x.1,Al x.2.1,x.2.2.1%4,())
def rL (x:bi):Prop:=(0<=x.1/\x.1<256)/\(0<=x.2.1/\x.2.1<256)/\(0<=x.2.2.1/\x.2.2.1<256)
theorem asW (x:bi) (h:rL x):FQ (x,())=some (oR x,()):=by obtain ⟨a,b,c,ae⟩:=x;obtain ⟨q,G,ab⟩:=h;simp only at q G ab;obtain ⟨bd,a6,cp⟩:=Oq a q.1 q.2;have M:Int.tmod b 4=b%4:=Int.tmod_eq_emod_of_nonneg G.1;have V:Int.tmod c 4=c%4:=Int.tmod_eq_emod_of_nonneg ab.1;unfold FQ;simp-implicitDefEqProofs (disch:=omega) only[bd,M,V,cR,aX,bN,an,iy,List.length_nil];rfl
def mR (l:l4):aj:=l.foldl (λt x=>ins (oR x) t) []
theorem AN (l:l4):(mR l).length<=l.length:=by
 have key: ∀(l:l4) (t:aj),(l.foldl (λt x=>ins (oR x) t) t).length<=t.length+l.length:=by
  intro l
  induction l with
  |nil=>intro t;simp
  |cons x l aR=>
   intro t;have q:=aR (ins (oR x) t);have G:=Py (oR x) t;simp only[List.foldl_cons,iy];omega
 have:=key l [];simp only[List.length_nil,Nat.zero_add]at this;exact this
theorem asO (l:l4) (h: ∀x∈l,rL x) (ad:l.length<10^18):Az (l,())=some (mR (l.take 40),()):=by
 have Rr:Ka (l,(0:Int),([]:aj),())=some (.inl (mR (l.take 40),())):=by
  obtain ⟨r,q,G⟩:=dG (b:=y9) (λer (t:aj)=>(l,(er:Int),t,())) (min l.length 40) (λer t=>t=mR (l.take er)) (λr=>r=.inl (mR (l.take 40),())) u (λer ej t aW=>by
    left;have at6:er<l.length:=u;refine ⟨ins (oR l[er]) t,?_,?_⟩
    ·show _=mR _;rw[List.take_add_one,hr at6,aW];simp only[mR,Option.toList_some,List.foldl_append,List.foldl_cons,List.foldl_nil]
    ·have hlen:t.length<=40:=by rw[aW];have:=AN (l.take er);simp only[ev]at this;omega
     have aT:=asW l[er] (h _ (dI _));have aN:=ajQ t (oR l[er]) u;simp-implicitDefEqProofs (disch:=omega) only[y9,Dl,aX,bm,cR,b5,an,ay,bN,bE,aT,aN,Int.natCast_add,Int.cast_ofNat_Int]) (λt aW=>by
    refine ⟨.inl (t,()),?_,?_⟩
    ·simp only[Sum.inl.injEq,c0,and_true];rw[aW];congr 1;rcases Nat.le_total l.length 40 with h |h
     ·rw[Nat.min_eq_left h,ia h,ew]
     ·rw[Nat.min_eq_right h]
    ·rcases Nat.lt_or_ge (min l.length 40) l.length with h |h
     ·simp-implicitDefEqProofs (disch:=omega) only[y9,Dl,aX,bm,an,ay]
     ·simp-implicitDefEqProofs (disch:=omega) only[y9,Dl,aX,bm,an,ay]) [] (by simp[mR])
  have ab:Ka (l,(0:Int),[],())=some r:=q;rw[ab,G]
 unfold Az;simp only[Rr]
def qw (k:N):Prop:=(tx (k,())).isSome=true
structure KD (m:bH):Prop where
 kind:1<=m.1/\m.1<=6
 key:m.1=1\/m.1=2->qw m.2.1
 alike:m.1=4\/m.1=5->(tM (m.2.2.2.2.1,m.2.2.2.2.2.1,())).isSome=true
theorem arI {p:ck} (h:qw p.1): ∃c,zg (p,())=some c:=by
 obtain ⟨r,ar⟩:=Option.isSome_iff_exists.1 h;simp only[zg,ar];cases (!decide ((r.2.1:Int)=(0:Int)))
 ·cases decide ((r.1.2.1:Int)=(1:Int))
  ·cases decide ((r.1.2.1:Int)=(2:Int))
   ·cases decide ((r.1.2.1:Int)=(3:Int))<;>exact ⟨_,rfl⟩
   ·exact ⟨_,rfl⟩
  ·exact ⟨_,rfl⟩
 ·exact ⟨_,rfl⟩
theorem ai7 (l:aj) (h: ∀p∈l,qw p.1) (ad:l.length<=10^6): ∃c,zr (l,())=some c:=by
 obtain ⟨z,q,G⟩:=dG (b:=tg) (λi (s:Int×Int)=>(l,(i:Int),0,0,s.1,s.2,())) l.length (λ_ _=>True) (λz=> ∃x,z=.inl x) u
  (λi E s _=>by left;obtain ⟨c,aw⟩:=arI (h l[i] (dI E));have M:=e3 (i:=i) (l:=l) u;have V:=dR i;have a1:=e6 i u;exact ⟨(i64.wrap (s.1+c.1.1),i64.wrap (s.2+c.1.2.1)),trivial,by simp only[tg,M,V,an,bN,bE,b5 E,aw,a1]⟩)
  (λs _=>by have M:=fD l;exact ⟨_,⟨_,rfl⟩,by simp only[tg,M,ay];rfl⟩) (0,0) trivial
 obtain ⟨x,rfl⟩:=G;have dr:JS (l,0,0,0,0,0,())=some (.inl x):=q;exact ⟨_,by simp only[zr,dr];rfl⟩
theorem abZ {k:N} (h:qw k): ∃c,tm (k,())=some c:=by obtain ⟨r,ar⟩:=Option.isSome_iff_exists.1 h;simp only[tm,ar];cases decide ((r.2.1:Int)=(0:Int))<;>exact ⟨_,rfl⟩
theorem asi (d:eR) {m:bH} (h:KD m): ∃c,k7 (d,m,())=some c:=by
 simp only[k7,rC,tC];by_cases q:m.1=1
 ·obtain ⟨e,he⟩:=abZ (h.key (.inl q));simp only[aX q,an,he];cases e.1<;>exact ⟨_,rfl⟩
 ·by_cases G:m.1=2
  ·obtain ⟨e,he⟩:=abZ (h.key (.inr G));simp only[bm q,ay,aX G,an,he];cases e.1<;>exact ⟨_,rfl⟩
  ·by_cases bF:m.1=6
   ·simp only[bm q,bm G,ay,aX bF,an];exact ⟨_,rfl⟩
   ·by_cases ab:m.1=3
    ·simp only[bm q,bm G,bm bF,ay,aX ab,an];exact ⟨_,rfl⟩
    ·obtain ⟨a,aV⟩:=Option.isSome_iff_exists.1 (h.alike (by have:=h.kind;omega));simp only[bm q,bm G,bm bF,bm ab,ay,aV];cases a.1
     ·exact ⟨_,rfl⟩
     ·cases decide ((m.1:Int)=(5:Int))<;>exact ⟨_,rfl⟩
theorem ajm {n:cE} (bY:n.2.2.1=[]) (h: ∀p∈n.1,qw p.1) (ad:n.1.length<=10^6): ∃d,nc (n,())=some d:=by
 obtain ⟨c,aw⟩:=ai7 n.1 h ad;have M:bG ((((n.2.2.1.length):Int):Int)=(0:Int)):=by rw[bY];rfl
 simp only[nc,M,an,aw,Fw];exact ⟨_,rfl⟩
theorem ai5 {n:cE} (bY:n.2.2.1≠[]) (ah:n.2.2.2.1.length<=10^6) (h: ∀m∈n.2.2.2.2.1,KD m) (ad:n.2.2.2.2.1.length<=10^6): ∃d,nc (n,())=some d:=by
 have cl:(decide ((((n.2.2.1.length):Int):Int)=(0:Int)))=false:=bm (by have:=List.length_pos_iff.2 bY;omega)
 obtain ⟨z,q,x,rfl⟩:=dG (b:=tq) (λi (s:eR)=>((i:Int),n,0,0,0,0,s,())) n.2.2.2.1.length (λ_ _=>True) (λz=> ∃x:eR,z=.inl (n,0,0,0,0,x,())) u
  (λi E s _=>by left;have M:bG (((i:Nat):Int)<((n.2.2.2.1.length):Int)):=aX u;have V:=dR i;have a1:=e6 i u;simp only[tq,M,V,an,bN,bE,b5 E,a1,AA];exact ⟨_,trivial,rfl⟩)
  (λs _=>by have M:(decide (((n.2.2.2.1.length:Nat):Int)<((n.2.2.2.1.length):Int)))=false:=bm u;exact ⟨_,⟨s,rfl⟩,by simp only[tq,M,ay]⟩) (((0:Int),((0:Int),())),(((0:Int),((0:Int),())),())) trivial
 have dr:Ko (0,n,0,0,0,0,(((0:Int),((0:Int),())),(((0:Int),((0:Int),())),())),())=some (.inl (n,0,0,0,0,x,())):=q;obtain ⟨z,G,y,rfl⟩:=dG (b:=tr) (λi (s:eR)=>((i:Int),n,0,0,0,0,s,())) n.2.2.2.2.1.length (λ_ _=>True) (λz=> ∃x,z=.inl x) u
  (λi E s _=>by left;obtain ⟨c,aw⟩:=asi s (h n.2.2.2.2.1[i] (dI E));have M:bG (((i:Nat):Int)<((n.2.2.2.2.1.length):Int)):=aX u;have V:=dR i;have a1:=e6 i u;exact ⟨c.1,trivial,by simp only[tr,M,V,an,bN,bE,b5 E,aw,a1]⟩)
  (λs _=>by have M:(decide (((n.2.2.2.2.1.length:Nat):Int)<((n.2.2.2.2.1.length):Int)))=false:=bm u;exact ⟨_,⟨_,rfl⟩,by simp only[tr,M,ay];rfl⟩) x trivial
 have il:Kp (0,n,0,0,0,0,x,())=some (.inl y):=G;exact ⟨_,by simp only[nc,cl,ay,dr,il];rfl⟩
def six:bo:=[[97,47],[98,47],[97,47,98,47],[99,47],[100,47],[]]
def n1 (d:aL):Prop:=d.2.1=[]\/Op.bytesLess d.1 d.2.1=true
def b7 (k p:N):Bool:=decide (p.length<=k.length)&&decide (k.take p.length=p)
theorem Oz (k p:N):v8 (k,p,())=some (b7 k p,()):=by
 unfold v8 b7;by_cases h:p.length<=k.length
 ·have bh:((k.length:Int)>=(p.length:Int)):=u;have ba:((0:Int)<=(p.length:Int)):=u;have c3:((p.length:Int)<=(k.length:Int)):=u;simp only[bh,ba,c3,aX,an,bN,bE,List.drop_zero,h,Bool.true_and]
 ·have bh: ¬((k.length:Int)>=(p.length:Int)):=u;simp only[bh,bm h,bm,ay,not_false_eq_true,Bool.false_and]
def dW (p:N):aL:=(p,(if p=[] then [] else p.dropLast++[48]),())
theorem adF: ∀(s k:N),(!Op.bytesLess k (s++[47])&&Op.bytesLess k (s++[48]))=b7 k (s++[47])
 |[],[]=>fm
 |[],x::k=>by
  show (!(decide (x<47)||(x==47&&Op.bytesLess k []))&&(decide (x<48)||(x==48&&Op.bytesLess k [])))=b7 (x::k) [47];have e:Op.bytesLess k []=false:=by cases k<;>rfl
  rw[e];unfold b7;simp only[Bool.and_false,Bool.or_false,iy,List.length_nil,List.take_succ_cons,List.take_zero];have q:decide (0+1<=k.length+1)=true:=aX u;rw[q,Bool.true_and];have G: ∀x:UInt8,(!decide (x<47)&&decide (x<48))=decide (x=47):=by intro x;rw[Bool.eq_iff_iff];simp only[bQ,eT,decide_eq_false_iff_not,dT,UInt8.lt_iff_toNat_lt,<-UInt8.toNat_inj];show (¬x.toNat<47/\x.toNat<48)↔x.toNat=47;omega
  rw[G];congr 1;simp
 |I::s,[]=>by show (!Op.bytesLess [] (I::(s++[47]))&&_)=b7 [] (I::(s++[47]));unfold b7;simp[Op.bytesLess]
 |I::s,x::k=>by
  have aR:=adF s k;show (!(decide (x<I)||(x==I&&Op.bytesLess k (s++[47])))&&(decide (x<I)||(x==I&&Op.bytesLess k (s++[48]))))=b7 (x::k) (I::(s++[47]));have L:b7 (x::k) (I::(s++[47]))=(decide (x=I)&&b7 k (s++[47])):=by unfold b7;simp only[iy,List.take_succ_cons,List.cons.injEq,Nat.add_le_add_iff_right,Bool.decide_and];cases decide ((s++[47]).length<=k.length)<;>simp
  rw[L,<-aR];by_cases q:x=I
  ·subst q;simp
  ·have ab:(x==I)=false:=by simpa using q
   simp only[ab,Bool.false_and,Bool.or_false,bm q];cases decide (x<I)<;>rfl
theorem mA: ∀p∈six,lX (p,())=some (dW p,())/\nY (p,())=some (dW p,())/\(p=[]\/p=p.dropLast++[47]):=by have h:six.all (λp=>decide (lX (p,())=some (dW p,()))&&(decide (nY (p,())=some (dW p,()))&&(decide (p=[])||decide (p=p.dropLast++[47]))))=true:=aC;intro p aT;have G:=fC.1 h p aT;simp only[bQ,Bool.or_eq_true,dT]at G;exact G
theorem A6 {p:N} (h:p=[]\/p=p.dropLast++[47]) (k:N):ch (dW p) k=b7 k p:=by
 unfold ch dW;by_cases aT:p=[]
 ·subst aT;cases k<;>simp[b7,Op.bytesLess]
 ·have h:=h.resolve_left aT;have:=adF p.dropLast k;rw[<-h]at this;rw[if_neg aT,<-this];have aO: ¬(p.dropLast++[48]=[]):=aU;simp only[bm aO,Bool.false_or]
theorem U6 {p:N} (h:p=[]\/p=p.dropLast++[47]):n1 (dW p):=by
 unfold n1 dW;by_cases aT:p=[]
 ·left;simp[aT]
 ·right;have h:=h.resolve_left aT;simp only[if_neg aT];have: ∀s:N,Op.bytesLess (s++[47]) (s++[48])=true:=by
   intro s
   induction s with
   |nil=>decide
   |cons a s aR=>simp[Op.bytesLess,aR]
  conv=>lhs;arg 1;rw[h]
  exact this _
def jF:bo:=[[97,47],[98,47],[97,47,98,47],[99,47]].flatMap λp=>[[1],[2,0,0],[2,0,1],[2,0,2],[3,120]].map λd=>p++d
theorem ac9 (n:Int) (h:0<=n/\n<256): ∃k∈jF,zK (n,())=some (k,()):=by
 obtain ⟨k,rfl⟩:=Int.eq_ofNat_of_zero_le h.1;have af:k<256:=u;have aw:(List.range 256).all (λk=>match zK ((k:Int),()) with |some (p,())=>jF.contains p |none=>false)=true:=aC;have:=fC.1 aw k (List.mem_range.2 af);cases aT:zK ((k:Int),()) with
 |none=>rw[aT]at this;cases this
 |some r=>
  obtain ⟨p,ae⟩:=r;rw[aT]at this;exact ⟨p,by simpa using this,rfl⟩
theorem asy (n:Int) (h:0<=n/\n<256): ∃v:N,v.length<=10/\wh (n,())=some (v,()):=by
 obtain ⟨k,rfl⟩:=Int.eq_ofNat_of_zero_le h.1;have af:k<256:=u;have aw:(List.range 256).all (λk=>match wh ((k:Int),()) with |some (p,())=>decide (p.length<=10)|none=>false)=true:=aC;have:=fC.1 aw k (List.mem_range.2 af);cases aT:wh ((k:Int),()) with
 |none=>rw[aT]at this;cases this
 |some r=>
  obtain ⟨p,ae⟩:=r;rw[aT]at this;exact ⟨p,by simpa using this,rfl⟩
def fc:bo:=[[97,47],[98,47],[97,47,98,47],[99,47],[100,47]]
theorem abG (n:Int) (h:0<=n/\n<256): ∃p∈fc,qh (n,())=some (p,()):=by
 obtain ⟨k,rfl⟩:=Int.eq_ofNat_of_zero_le h.1;have af:k<256:=u;have aw:(List.range 256).all (λk=>match qh ((k:Int),()) with |some (p,())=>fc.contains p |none=>false)=true:=aC;have:=fC.1 aw k (List.mem_range.2 af);cases aT:qh ((k:Int),()) with
 |none=>rw[aT]at this;cases this
 |some r=>
  obtain ⟨p,ae⟩:=r;rw[aT]at this;exact ⟨p,by simpa using this,rfl⟩
theorem na: ∀p∈fc,p∈six:=by intro p aT;simp only[fc,six,e7,List.mem_nil_iff,or_false]at aT ⊢;rcases aT with h |h |h |h |h<;>simp[h]
def ot (a b:N):N:=bif b7 a b||b7 b a then (bif decide (a=[100,47]) then [99,47] else [100,47]) else b
theorem aj1: ∀a∈fc,∀b∈fc,ot a b∈fc/\b7 a (ot a b)=false/\b7 (ot a b) a=false:=by have h:fc.all (λa=>fc.all λb=>fc.contains (ot a b)&&(!b7 a (ot a b)&& !b7 (ot a b) a))=true:=aC;intro a aV b L;have:=fC.1 (fC.1 h a aV) b L;simpa using this
abbrev oV:Type:=(Int)×(Int)×(Int)×(Int)×(Int)×(Int)×H
def jt (a:Int) (k v f t:N) (d:aL) (n:Int):bH:=
 bif decide (a=0) then (1,k,v,([],[],()),[],[],n,())
 else bif decide (a=1) then (2,k,[],([],[],()),[],[],0,())
 else bif decide (a=2) then (3,[],[],d,[],[],0,())
 else bif decide (a=3) then (4,[],[],([],[],()),f,t,0,())
 else bif decide (a=4) then (5,[],[],([],[],()),f,t,0,())
 else (6,[],[],d,[],[],n,())
theorem aj9 (k f t v:N) (x:oV) (d:aL) (a8:wh (x.2.2.1,())=some (v,())):
  rv (k,f,t,x,(0:Int),[],[],[],[],[],[],(0:Int),d,())=some (.inl (jt (Int.tmod x.1 6) k v f t d (i64.wrap (Int.tmod x.2.2.2.2.2.1 8)))):=by
 unfold rv jt;simp only[a8];cases decide (Int.tmod x.1 6=0)<;>cases decide (Int.tmod x.1 6=1)<;>cases decide (Int.tmod x.1 6=2)<;>cases decide (Int.tmod x.1 6=3)<;>cases decide (Int.tmod x.1 6=4)<;>rfl
theorem aj8 (k f t v:N) (x:oV) (d:aL) (a8:wh (x.2.2.1,())=some (v,())) (aM:qh (x.2.1,())=some (f,())) (aW:qh (x.2.2.2.1,())=some (t,())):
  nB (k,x,(0:Int),[],[],[],[],[],[],(0:Int),d,())=some (.inl (jt (Int.tmod x.1 6) k v f (ot f t) d (i64.wrap (Int.tmod x.2.2.2.2.2.1 8)))):=by
 unfold nB sV ot;simp only[aM,aW,Oz];cases b7 f t<;>cases b7 t f<;>cases decide (f=[100,47])<;>simp only[cL,cU,an,ay,Bool.or_true,Bool.or_false,Bool.true_or,Bool.false_or,aj9 k _ _ v x d a8]
structure ig (m:bH):Prop where
 kind:m.1=1\/m.1=2\/m.1=3\/m.1=4\/m.1=5\/m.1=6
 key:m.1=1\/m.1=2->m.2.1∈jF
 val:m.1=1->m.2.2.1.length<=10
 span:m.1=3\/m.1=6->n1 m.2.2.2.1
 from_:m.1=4\/m.1=5->m.2.2.2.2.1∈fc
 to_:m.1=4\/m.1=5->m.2.2.2.2.2.1∈fc
 apart:m.1=4\/m.1=5->b7 m.2.2.2.2.1 m.2.2.2.2.2.1=false/\b7 m.2.2.2.2.2.1 m.2.2.2.2.1=false
theorem arY (a:Int) (k v f t:N) (d:aL) (n:Int) (af:k∈jF) (a8:v.length<=10) (aM:f∈fc) (aW:t∈fc) (ah:n1 d) (q:b7 f t=false) (G:b7 t f=false):ig (jt a k v f t d n):=by
 unfold jt;cases decide (a=0) with
 |true=>exact ⟨aU,λ_=>af,λ_=>a8,aU,aU,aU,aU⟩
 |false=>
  cases decide (a=1) with
  |true=>exact ⟨aU,λ_=>af,aU,aU,aU,aU,aU⟩
  |false=>
   cases decide (a=2) with
   |true=>exact ⟨aU,aU,aU,λ_=>ah,aU,aU,aU⟩
   |false=>
    cases decide (a=3) with
    |true=>exact ⟨aU,aU,aU,aU,λ_=>aM,λ_=>aW,λ_=>⟨q,G⟩⟩
    |false=>
     cases decide (a=4) with
     |true=>exact ⟨aU,aU,aU,aU,λ_=>aM,λ_=>aW,λ_=>⟨q,G⟩⟩
     |false=>exact ⟨aU,aU,aU,λ_=>ah,aU,aU,aU⟩
def zc (x:oV):Prop:=(0<=x.1/\x.1<256)/\(0<=x.2.1/\x.2.1<256)/\(0<=x.2.2.1/\x.2.2.1<256)/\(0<=x.2.2.2.1/\x.2.2.2.1<256)
theorem U4 (k:N):Op.bytesLess k (k++[0])=true:=by
 induction k with
 |nil=>rfl
 |cons a k aR=>simp[Op.bytesLess,aR]
theorem asp: ∀k∈jF,qw k:=by have h:jF.all (λk=>(tx (k,())).isSome)=true:=aC;exact λk af=>fC.1 h k af
theorem aqP: ∀a∈fc,∀b∈fc,(tM (a,b,())).isSome=true:=by have h:fc.all (λa=>fc.all λb=>(tM (a,b,())).isSome)=true:=aC;exact λa aV b L=>fC.1 (fC.1 h a aV) b L
theorem ig.mok {m:bH} (h:ig m):KD m:=
 ⟨by have:=h.kind;omega,λaf=>asp _ (h.key af),λaf=>aqP _ (h.from_ af) _ (h.to_ af)⟩
theorem adb (a b:N): ∃r,qg (a,b,())=some (r,()):=by
 simp only[qg];cases (!decide (a=([]:N)))
 ·exact ⟨_,rfl⟩
 ·cases (!decide (b=([]:N)))<;>exact ⟨_,rfl⟩
theorem AE (d:aL): ∃r,mZ (d,())=some (r,()):=by simp only[mZ];cases (!decide (d.2.1=([]:N)))<;>exact ⟨_,rfl⟩
theorem arh (a b c I:N): ∃r,J9 (a,b,c,I,())=some (r,()):=by obtain ⟨e,he⟩:=AE (c,I,());simp only[J9,he,Oa];cases e<;>exact ⟨_,rfl⟩
theorem acI (a b:aL): ∃r,Ay (a,b,())=some (r,()):=by obtain ⟨l,ad⟩:=adb b.2.1 a.2.1;simp only[Ay,ad];cases l<;>simp only[an,ay]<;>exact arh _ _ _ _
theorem On (a b:aL): ∃r,me (a,b,())=some (r,()):=by obtain ⟨e,he⟩:=AE b;obtain ⟨f,aM⟩:=AE a;obtain ⟨l,ad⟩:=adb a.2.1 b.2.1;simp only[me,he,aM,ad];cases e<;>cases f<;>cases (Op.bytesLess a.1 b.1||decide ((a.1:N)=b.1))<;>exact ⟨_,rfl⟩
theorem asY (d:aL) (ps:bo) (ad:ps.length<=10^5): ∃l,zq (d,ps,())=some (l,())/\l.length=ps.length+1:=by
 obtain ⟨z,q,s,rfl,aN⟩:=dG (b:=Dy) (λi (s:N×au)=>(ps,s.1,(i:Int),d,s.2,())) ps.length (λi s=>s.2.length=i) (λz=> ∃s:N×au,z=.inl (s.1,d,s.2,())/\s.2.length=ps.length) u
  (λi E s aN=>by
   left;have M:=e3 (i:=i) (l:=ps) u;have V:=dR i;have a1:=e6 i u;obtain ⟨r,ar⟩:=acI d (s.1,(ps[i],()));have cI: ∀x:aL,(decide ((s.2.length+List.length ([x]:List (aL)))*32<=am))=true:=λx=>aX (by rw[aN,ey];simp;omega)
   exact ⟨(ps[i],s.2++[r]),by simp[aN],by simp only[Dy,M,V,an,bN,bE,b5 E,ar,cI,a1]⟩)
  (λs aN=>by have M:=fD ps;exact ⟨_,⟨s,rfl,aN⟩,by simp only[Dy,M,ay]⟩) (([]:N),([]:au)) rfl
 have dr:L1 (ps,[],0,d,[],())=some (.inl (s.1,d,s.2,())):=q;obtain ⟨r,ar⟩:=acI d (s.1,(([]:N),()));have cI: ∀x:aL,(decide ((s.2.length+List.length ([x]:List (aL)))*32<=am))=true:=λx=>aX (by rw[aN,ey];simp;omega)
 exact ⟨s.2++[r],by simp only[zq,dr,ar,cI,an],by simp[aN]⟩
theorem Ax {p:N} (h:p∈fc): ∃r,nY (p,())=some (r,()):=⟨_,(mA p (na p h)).2.1⟩
theorem adD {k:N} (h:k∈jF): ∃r,oL (k,())=some (r,()):=by
 have hlen:jF.all (λk=>decide (k.length<100))=true:=aC;have:=of_decide_eq_true (fC.1 hlen k h);have:k.length+([0]:N).length<=am:=by rw[ey];simp;omega
 simp only[oL,this,aX,an];exact ⟨_,rfl⟩
theorem as1 {m:bH} (h:ig m): ∃l,nO (m,())=some (l,())/\l.length<=2:=by
 simp only[nO,ry];by_cases aE:m.1=4
 ·obtain ⟨r,ar⟩:=Ax (h.from_ (.inl aE));simp only[aX aE,an,ar];exact ⟨_,rfl,aU⟩
 ·by_cases bf:m.1=5
  ·obtain ⟨r,ar⟩:=Ax (h.from_ (.inr bf));simp only[bm aE,aX bf,an,ay,ar];exact ⟨_,rfl,aU⟩
  ·simp only[bm aE,bm bf,ay];cases decide (m.1=6)<;>exact ⟨_,rfl,aU⟩
theorem asA {m:bH} (h:ig m): ∃l,lI (m,())=some (l,())/\l.length<=2:=by
 simp only[lI,ou];by_cases q:m.1=1
 ·obtain ⟨r,ar⟩:=adD (h.key (.inl q));simp only[aX q,an,ar];exact ⟨_,rfl,aU⟩
 ·by_cases G:m.1=2
  ·obtain ⟨r,ar⟩:=adD (h.key (.inr G));simp only[bm q,aX G,an,ay,ar];exact ⟨_,rfl,aU⟩
  ·by_cases aE:m.1=4
   ·obtain ⟨r,ar⟩:=Ax (h.from_ (.inl aE));obtain ⟨t,aW⟩:=Ax (h.to_ (.inl aE));simp only[bm q,bm G,aX aE,an,ay,ar,aW];exact ⟨_,rfl,aU⟩
   ·by_cases bf:m.1=5
    ·obtain ⟨t,aW⟩:=Ax (h.to_ (.inr bf));simp only[bm q,bm G,bm aE,aX bf,an,ay,aW];exact ⟨_,rfl,aU⟩
    ·simp only[bm q,bm G,bm aE,bm bf,ay];exact ⟨_,rfl,aU⟩
theorem arH (d:aL) (l:au) (ad:l.length<=1000): ∃r,DY (0,d,l,())=some r:=by
 obtain ⟨z,q,-⟩:=dG (b:=pg) (λi (_:H)=>((i:Int),d,l,())) l.length (λ_ _=>True) (λ_=>True) u
  (λi E _ _=>by
   have M:=e3 (i:=i) (l:=l) u;have V:=dR i;have a1:=e6 i u;obtain ⟨r,ar⟩:=On d l[i];simp only[pg,M,V,an,bN,bE,b5 E,ar,a1];cases r
   ·exact .inr ⟨_,trivial,rfl⟩
   ·exact .inl ⟨(),trivial,rfl⟩)
  (λ_ _=>by have M:=fD l;exact ⟨_,trivial,by simp only[pg,M,ay];rfl⟩) () trivial
 exact ⟨z,q⟩
theorem aiV {m:bH} (h:ig m) (d:aL): ∃r,jK (m,d,())=some (r,()):=by obtain ⟨a,aV,auo⟩:=as1 h;obtain ⟨b,L,eE⟩:=asA h;obtain ⟨z,bI⟩:=arH d (([]++a)++b) (by simp;omega);have M:bG ((List.length ([]:List (aL))+a.length)*32<=am):=aX (by rw[ey];simp;omega);have V:bG ((List.length (([]:List (aL))++a)+b.length)*32<=am):=aX (by rw[ey];simp;omega);simp only[jK,aV,L,M,V,an,bI];cases z<;>exact ⟨_,rfl⟩
abbrev r0:Type:=((bB)×(List (ck))×(aL)×(List bo)×(fg)×H)->Option ((fh)×H)
def pI (Q:cK):Nat->Nat->Prop
 |0,_=>False
 |h+1,i=> ∃n,Q[i]? =some n/\
   ((h=0/\n.2.2.1=[]/\n.1.length<=1000/\ ∀p∈n.1,qw p.1)\/
    (0<h/\ ∃ks:dA,n.2.2.1=bM ks/\ks.length=n.2.1.length+1/\n.2.1.length<=100/\n.2.2.2.1.length<=1000/\n.2.2.2.2.1.length<=5/\(∀m∈n.2.2.2.2.1,ig m)/\ ∀k∈ks,pI Q h k))
theorem pI.app {Q:cK} (l:cK): ∀{h i:Nat},pI Q h i->pI (Q++l) h i
 |0,_,h=>h.elim
 |h+1,i,⟨n,aO,bg⟩=>by refine ⟨n,?_,bg.imp id λ⟨bY,ks,a,b,c,I,e,f,g⟩=>⟨bY,ks,a,b,c,I,e,f,λk af=>pI.app l (g k af)⟩⟩;rw[List.getElem?_append_left (iK.1 aO).1];exact aO
theorem pI.lt {Q:cK} {h i:Nat} (t:pI Q h i):i<Q.length:=by
 cases h with
 |zero=>exact t.elim
 |succ h=>
  obtain ⟨n,aO,-⟩:=t;exact (iK.1 aO).1
theorem pI.sum {Q:cK} {h i:Nat} (t:pI Q h i) (n:cE) (aO:Q[i]? =some n): ∃d,nc (n,())=some d:=by
 cases h with
 |zero=>exact t.elim
 |succ h=>
  obtain ⟨m,hm,bg⟩:=t;obtain rfl:=eW (hm.symm.trans aO);rcases bg with ⟨-,bY,q,G⟩|⟨-,ks,a,b,c,I,e,f,g⟩
  ·exact ajm bY G u
  ·refine ai5 ?_ u (λm hm=>(f m hm).mok) u;intro h;rw[a]at h;have:=congrArg List.length h;rw[fO,List.length_nil]at this;omega
structure KA where
 l:cK
 ks:dA
 sums:hs
theorem aje (r:r0) (a7:cK) (ks:dA) (bu: ∀k∈ks,k<a7.length) (aO:ks.Nodup) (ad:a7.length<=1000) (m6:ks.length<=1000) (a:qc) (piv:bo) (sums:hs) (buf:cD):
  JP r (0,[],0,[],a,(mk a7 (λj=>if j∈ks then 2 else 1),()),piv,bM ks,sums,buf,())=some (.inl ([],0,a,(mk a7 (λ_=>1),()),())):=by
 obtain ⟨z,q,G⟩:=dG (b:=yV r) (λi (p:b9)=>((i:Int),[],0,[],a,(p,()),piv,bM ks,sums,buf,())) ks.length (λi p=>p=mk a7 (λj=>if j∈ks.drop i then 2 else 1)) (λz=>z=.inl ([],0,a,(mk a7 (λ_=>1),()),())) u
  (λi E p aT=>by
   left;subst aT;refine ⟨_,rfl,?_⟩;have gf:ks[i]<a7.length:=bu _ (dI E);have M:bG (((i:Nat):Int)<((List.length (bM ks)):Int)):=aX (by rw[fO];omega);have V:=dR i;have a1:=e6 i u;have ao:ks.drop i=ks[i]::ks.drop (i+1):=lZ E;have dK:(ks[i]::ks.drop (i+1)).Nodup:=by rw[<-ao];exact aO.sublist (List.drop_sublist _ _)
   have mq:=(List.nodup_cons.1 dK).1;have bp:=akg (Q:=a7) (r:=λj=>if j∈ks.drop i then 2 else 1) gf (if_pos (by rw[ao];exact gI)) ad;have cI:mk a7 (λj=>if j=ks[i] then 1 else if j∈ks.drop i then 2 else 1)=mk a7 (λj=>if j∈ks.drop (i+1) then 2 else 1):=AV λj _=>by
    by_cases ak:j=ks[i]
    ·rw[if_pos ak,if_neg (by rw[ak];exact mq)]
    ·rw[if_neg ak];have:j∈ks.drop i↔j∈ks.drop (i+1):=by rw[ao,e7];exact ⟨λh=>h.resolve_left ak,.inr⟩
     by_cases G:j∈ks.drop i
     ·rw[if_pos G,if_pos (this.1 G)]
     ·rw[if_neg G,if_neg (λh=>G (this.2 h))]
   rw[cI]at bp;simp only[yV,M,V,an,bN,bE,k9 E,bp,a1])
  (λp aT=>by
   subst aT;have M:(decide (((ks.length:Nat):Int)<((List.length (bM ks)):Int)))=false:=bm (by rw[fO];omega);have cI:mk a7 (λj=>if j∈ks.drop ks.length then 2 else 1)=mk a7 (λ_=>1):=AV λj _=>by rw[List.drop_length];simp
   exact ⟨_,rfl,by simp only[yV,M,ay,cI]⟩) (mk a7 (λj=>if j∈ks then 2 else 1)) aU
 subst G;exact q
theorem ajd (r:r0) (a7:cK) (ks:dA) (bu: ∀k∈ks,k<a7.length) (aO:ks.Nodup) (ad:a7.length<=899) (m6:ks.length<=1000) (piv:bo) (sums:hs) (buf:cD):
  vT r ((mk a7 (λ_=>1),()),[],0,[],piv,bM ks,sums,buf,())=some (((mk (a7++[([],piv,bM ks,sums,buf,())]) (λ_=>1),()),((a7.length:Nat):Int),()),()):=by
 have M:=UT (Q:=a7) (n:=([],piv,bM ks,sums,buf,())) (ks:=ks) rfl bu aO m6 u;have V:=aje r (a7++[([],piv,bM ks,sums,buf,())]) ks (λk af=>by have:=bu k af;simp;omega) aO (by simp;omega) m6 ((mk (a7++[([],piv,bM ks,sums,buf,())]) (λj=>if j∈ks then 2 else 1),()),((a7.length:Int),(0,()))) piv sums buf;simp only[vT,M,V]
structure aiD (x:fg):Prop where
 b0:(∀y∈x.2.1.1,zc y)/\x.2.1.1.length<10^18
 b1:(∀y∈x.2.1.2.1,zc y)/\x.2.1.2.1.length<10^18
 b2:(∀y∈x.2.1.2.2.1,zc y)/\x.2.1.2.2.1.length<10^18
 b3:(∀y∈x.2.1.2.2.2.1,zc y)/\x.2.1.2.2.2.1.length<10^18
structure wY (t:aj):Prop where
 len:t.length<=1000
 key: ∀p∈t,qw p.1
theorem Pz (p s:ck): ∀t:aj,s∈ins p t->s=p\/s∈t
 |[],h=>by simp[ins]at h;exact .inl h
 |x::t,h=>by
  unfold ins at h;cases L:Op.bytesLess x.1 p.1
  ·rw[L,ay]at h;rcases e7.1 h with h |h
   ·exact .inl h
   ·exact .inr (e8.1 h).1
  ·rw[L,an]at h;rcases e7.1 h with h |h
   ·exact .inr (by rw[h];exact gI)
   ·exact (Pz p s t h).imp id (gU _)
theorem OP (l:l4) (s:ck) (h:s∈mR l): ∃y∈l,s=oR y:=by
 have key: ∀(l:l4) (t:aj),s∈l.foldl (λt x=>ins (oR x) t) t->s∈t\/ ∃y∈l,s=oR y:=by
  intro l
  induction l with
  |nil=>intro t h;exact .inl h
  |cons x l aR=>
   intro t h;rcases aR _ h with h |⟨y,bt,e⟩
   ·rcases Pz _ _ _ h with h |h
    ·exact .inr ⟨x,gI,h⟩
    ·exact .inl h
   ·exact .inr ⟨y,gU _ bt,e⟩
 rcases key l [] h with h |h
 ·simp at h
 ·exact h
theorem akz (n:Int) (bY:0<=n) (q:n<256):qw (l0 n):=by obtain ⟨m,rfl⟩:=Int.eq_ofNat_of_zero_le bY;have aw:(List.range 256).all (λk=>(tx (l0 ((k:Nat):Int),())).isSome)=true:=aC;exact fC.1 aw m (List.mem_range.2 u)
theorem akP (l:l4) (h: ∀x∈l,rL x):wY (mR (l.take 40)):=by
 refine ⟨?_,λp aT=> ?_⟩
 ·have:=AN (l.take 40);simp only[ev]at this;omega
 ·obtain ⟨y,bt,rfl⟩:=OP _ _ aT;have:=(h y (List.mem_of_mem_take bt)).1;exact akz y.1 this.1 this.2
def cap:Nat->Nat
 |0=>1
 |I+1=>1+6*cap I
structure azb (x:fg):Prop where
 xok:aiD x
 t:(∀y∈x.1,rL y)/\x.1.length<10^18
 w:0<=x.2.2.1/\x.2.2.1<256
def nk:List (List bo):=[[],[[[97,47,98,47],[98,47],[99,47]]],[[[98,47]],[[97,47,2],[97,47,98,47],[99,47]]],[[[97,47,98,47],[98,47]],[[97,47,98,47,2],[99,47],[100,47]]]]
def zj (w:Int):bi:=(i64.wrap (2+i64.wrap (Int.tmod (IntKind.u8.wrap (Int.tdiv w 4)) 4)),(i64.wrap (2+i64.wrap (Int.tmod (IntKind.u8.wrap (Int.tdiv w 16)) 3)),(i64.wrap (1+i64.wrap (IntKind.u8.wrap (Int.tdiv w 64))),())))
theorem aiX (x:fg):FR (x,())=match Az (x.1,()) with
  |none=>none
  |some aa=>bif (decide ((0:Int)<=i64.wrap (Int.tmod x.2.2.1 4))&&decide (i64.wrap (Int.tmod x.2.2.1 4)<(nk.length:Int))) then
    match Fx ((([]:List (iM)),()),aa.1,(([]:N),(([]:N),())),nk.getD (Int.toNat (i64.wrap (Int.tmod x.2.2.1 4))) [],x,()) with
    |none=>none
    |some bP=>some ((bP.1.1,(bP.1.2.1,(zj x.2.2.1,()))),())
   else none:=rfl
theorem ak3 {er fS:Nat} (h:er+fS<2^62):Int.fdiv (IntKind.u64.wrap (i64.wrap ((er:Int)+(fS:Int)))) (2^(min (Int.toNat (1:Int)) IntKind.u64.bits))=(((er+fS)/2:Nat):Int):=by
 have M:i64.wrap ((er:Int)+(fS:Int))=((er+fS:Nat):Int):=by rw[cR u];omega
 have V:IntKind.u64.wrap ((er+fS:Nat):Int)=((er+fS:Nat):Int):=by show ((er+fS:Nat):Int)%2^64=_;omega
 rw[M,V];have a1:(2:Int)^(min (Int.toNat (1:Int)) IntKind.u64.bits)=2:=fm;rw[a1,Int.fdiv_eq_ediv_of_nonneg _ u];omega
abbrev aiw:Type:=(Bool)×(Bool)×N×N×(Int)×N×(Bool)×(Int)×H
end D
open Go Go.X
namespace D
def mT (x y:N):Int:=if Op.bytesLess x y=true then-1 else if x=y then 0 else 1
theorem ajG {x y:N}:(mT x y=0)↔x=y:=by
 unfold mT;split
 ·rename_i h;have:=nj h;simp[this]
 ·split<;>simp[*]
theorem acC: ∀(a b:N),Lib.compareBytes a b=mT a b
 |[],[]=>rfl
 |[],_::_=>rfl
 |_::_,[]=>rfl
 |a::x,b::y=>by
  have aR:=acC x y;rw[Lib.compareBytes];unfold mT at aR ⊢;simp only[Op.bytesLess];by_cases q:a<b
  ·simp[q]
  ·by_cases G:b<a
   ·have ab:a≠b:=by rintro rfl;exact q G
    simp[q,G,ab]
   ·have ab:a=b:=UInt8.le_antisymm (UInt8.not_lt.1 G) (UInt8.not_lt.1 q);subst ab;rw[if_neg q,if_neg q,aR];simp
theorem abq (p:ck) (k:N):D4 (p,k,())=some (mT p.1 k,()):=by unfold D4 TU Sn;simp only[acC]
theorem n0 (n:cE):tX (n,())=some (decide ((((n.2.2.1.length):Int):Int)=(0:Int)),()):=rfl
theorem OG (x:oV) (h:zc x): ∃k v f t d,zF (x,())=some (jt (Int.tmod x.1 6) k v f (ot f t) d (i64.wrap (Int.tmod x.2.2.2.2.2.1 8)),())/\ig (jt (Int.tmod x.1 6) k v f (ot f t) d (i64.wrap (Int.tmod x.2.2.2.2.2.1 8)))/\f∈fc/\t∈fc/\d.1.length<=200/\d.2.1.length<=200:=by
 obtain ⟨q,G,ab,aE⟩:=h;obtain ⟨k,af,atQ⟩:=ac9 _ G;obtain ⟨l,ad,el⟩:=ac9 _ aE;obtain ⟨v,a8,db⟩:=asy _ ab;obtain ⟨f,aM,ad0⟩:=abG _ G;obtain ⟨t,aW,ox⟩:=abG _ aE;obtain ⟨t1,t2,t3⟩:=aj1 f aM t aW;obtain ⟨_,atS,atT⟩:=mA f (na f aM);have M:oL (k,())=some ((k,k++[0],()),()):=by
  unfold oL;have hlen:jF.all (λk=>decide (k.length<100))=true:=aC;have:=of_decide_eq_true (fC.1 hlen k af);have:k.length+([0]:N).length<=am:=by rw[ey];simp;omega
  simp only[this,aX,an]
 have azB:k.length<100:=by have hlen:jF.all (λk=>decide (k.length<100))=true:=aC;exact of_decide_eq_true (fC.1 hlen k af)
 have azD:l.length<100:=by have hlen:jF.all (λk=>decide (k.length<100))=true:=aC;exact of_decide_eq_true (fC.1 hlen l ad)
 have auO:(dW f).1.length<=200/\(dW f).2.1.length<=200:=by have hlen:fc.all (λp=>decide ((dW p).1.length<=200)&&decide ((dW p).2.1.length<=200))=true:=aC;have:=fC.1 hlen f aM;simpa using this
 have fin: ∀d:aL,n1 d->(d.1.length<=200/\d.2.1.length<=200)-> ∃eB lx mg iJ gG,(match nB (k,x,(0:Int),([]:N),([]:N),([]:N),([]:N),([]:N),([]:N),(0:Int),d,()) with
   |none=>none
   |some (.inl gi)=>some ((gi.1,(gi.2.1,(gi.2.2.1,(gi.2.2.2.1,(gi.2.2.2.2.1,(gi.2.2.2.2.2.1,(gi.2.2.2.2.2.2.1,()))))))),())
   |some (.inr gi)=>none)=some (jt (Int.tmod x.1 6) eB lx mg (ot mg iJ) gG (i64.wrap (Int.tmod x.2.2.2.2.2.1 8)),())/\ig (jt (Int.tmod x.1 6) eB lx mg (ot mg iJ) gG (i64.wrap (Int.tmod x.2.2.2.2.2.1 8)))/\mg∈fc/\iJ∈fc/\gG.1.length<=200/\gG.2.1.length<=200:=by
  intro d ah oF;refine ⟨k,v,f,t,d,?_,arY _ _ _ _ _ _ _ af a8 aM t1 ah t2 t3,aM,aW,oF⟩;rw[aj8 k f t v x d db ad0 ox]
 unfold zF;simp only[atQ,el,ad0,atS,M];cases decide (Int.tmod x.2.2.2.2.1 4=0) with
 |true=>exact fin _ (U6 atT) auO
 |false=>
  simp only[ay];cases decide (Int.tmod x.2.2.2.2.1 16=1) with
  |true=>exact fin _ (.inl rfl) ⟨by (try simp only[eF,List.length_nil,iy]);omega,by (try simp only[eF,List.length_nil,iy]);omega⟩
  |false=>
   simp only[ay];cases decide (Int.tmod x.2.2.2.2.1 16=5) with
   |true=>exact fin _ (.inl rfl) ⟨by (try simp only[eF,List.length_nil,iy]);omega,by (try simp only[eF,List.length_nil,iy]);omega⟩
   |false=>
    simp only[ay];by_cases m6:k=l
    ·simp only[aX m6,an];exact fin _ (.inr (U4 k)) ⟨by (try simp only[eF,List.length_nil,iy]);omega,by (try simp only[eF,List.length_nil,iy]);omega⟩
    ·simp only[bm m6,ay];refine fin _ (Or.inr ?_) ?_
     rotate_left
     ·cases Op.bytesLess k l<;>simp<;>omega
     rcases ih k l with h |h |h
     ·simp only[h,Bool.true_or,an,cL,ay]
     ·exact absurd h m6
     ·simp only[j3 h,Bool.false_or,Bool.or_false,cU,an,ay];exact h
def rM (x:oV):Prop:=zc x/\(0<=x.2.2.2.2.1/\x.2.2.2.2.1<256)/\0<=x.2.2.2.2.2.1/\x.2.2.2.2.2.1<256
def gj (m:bH):Prop:= ∃x:oV,rM x/\zF (x,())=some (m,())
theorem gj.ok {m:bH} (h:gj m):ig m:=by obtain ⟨x,al,e⟩:=h;obtain ⟨k,v,f,t,d,V,ok,-,-⟩:=OG x al.1;have a1:=eW (e.symm.trans V);have bp:m=_:=congrArg Prod.fst a1;rw[bp];exact ok
theorem adz (l:List oV) (h: ∀x∈l,rM x) (n:Nat) (aO:n<=1000) (ad:l.length<10^18): ∃ms,zE (l,(n:Int),())=some (ms,())/\ms.length<=n/\ ∀m∈ms,gj m:=by
 obtain ⟨z,q,ms,rfl,G,ab⟩:=dG (b:=za) (λi (out:cD)=>(l,(n:Int),(i:Int),out,())) (min l.length n) (λi out=>out.length=i/\ ∀m∈out,gj m) (λz=> ∃ms,z=.inl (ms,())/\ms.length<=n/\ ∀m∈ms,gj m) u
  (λi E out W=>by
   left;obtain ⟨yk,vt⟩:=W;have hT:i<l.length:=u;obtain ⟨yI,e,ok⟩: ∃yI,zF (l[i],())=some (yI,())/\gj yI:=by obtain ⟨k,v,f,t,d,e,ok,-,-⟩:=OG l[i] (h _ (dI hT)).1;exact ⟨_,e,l[i],h _ (dI hT),e⟩
   refine ⟨out++[yI],⟨by rw[eF,yk];rfl,λm hm=> ?_⟩,?_⟩
   rotate_left
   ·have M:=e3 (i:=i) (l:=l) u;have V:=dR i;have a1:=e6 i u;have bp:bG (((i:Nat):Int)<(n:Int)):=aX u;have cI: ∀x:bH,(decide ((out.length+List.length ([x]:List (bH)))*112<=am))=true:=λx=>aX (by rw[yk,ey];simp;omega)
    simp only[za,Dm,M,V,bp,an,bN,bE,b5 hT,e,cI,a1]
   ·rcases dp.1 hm with hm |hm
    ·exact vt m hm
    ·rw[gv.1 hm];exact ok)
  (λout W=>by
   obtain ⟨yk,vt⟩:=W;refine ⟨_,⟨out,rfl,u,vt⟩,?_⟩;rcases Nat.lt_or_ge (min l.length n) l.length with q |q
   ·have M:bG (((min l.length n:Nat):Int)<((l.length):Int)):=aX u;have bp:(decide (((min l.length n:Nat):Int)<(n:Int)))=false:=bm u;simp only[za,Dm,M,bp,an,ay]
   ·have M:(decide (((min l.length n:Nat):Int)<((l.length):Int)))=false:=bm u;simp only[za,Dm,M,ay]) [] ⟨rfl,aU⟩
 have dr:MA (l,(n:Int),0,[],())=some (.inl (ms,())):=q;exact ⟨ms,by simp only[zE,dr],G,ab⟩
theorem FJ (l:List oV) (h: ∀x∈l,rM x) (d:aL) (ad:l.length<10^18): ∃ms,vZ (l,d,(5:Int),())=some (ms,())/\ms.length<=5/\ ∀m∈ms,gj m/\jK (m,d,())=some (true,()):=by
 obtain ⟨all,q,G,ab⟩:=adz l h 15 u ad;obtain ⟨z,g1,ms,rfl,g2,g3⟩:=dG (b:=vN) (λi (out:cD)=>((5:Int),(i:Int),d,out,all,())) all.length (λi out=>out.length<=5/\ ∀m∈out,gj m/\jK (m,d,())=some (true,())) (λz=> ∃ms,z=.inl (ms,())/\ms.length<=5/\ ∀m∈ms,gj m/\jK (m,d,())=some (true,())) u
  (λi E out W=>by
   obtain ⟨yk,vt⟩:=W;have M:=e3 (i:=i) (l:=all) u;have V:=dR i;have a1:=e6 i u;by_cases bf:out.length<5
   ·left;have bp:bG ((((out.length):Int):Int)<(5:Int)):=aX u;obtain ⟨r,ar⟩:=aiV (ab all[i] (dI E)).ok d;have cI: ∀x:bH,(decide ((out.length+List.length ([x]:List (bH)))*112<=am))=true:=λx=>aX (by rw[ey];simp;omega)
    cases r with
    |false=>exact ⟨out,⟨yk,vt⟩,by simp only[vN,yw,M,V,bp,an,ay,bN,bE,b5 E,ar,a1]⟩
    |true=>
     refine ⟨out++[all[i]],⟨by simp;omega,λm hm=> ?_⟩,by simp only[vN,yw,M,V,bp,an,ay,bN,bE,b5 E,ar,cI,a1]⟩;rcases dp.1 hm with hm |hm
     ·exact vt m hm
     ·rw[gv.1 hm];exact ⟨ab _ (dI E),ar⟩
   ·right;have bp:(decide ((((out.length):Int):Int)<(5:Int)))=false:=bm u;exact ⟨_,⟨out,rfl,yk,vt⟩,by simp only[vN,yw,M,bp,an,ay]⟩)
  (λout W=>by have M:=fD all;exact ⟨_,⟨out,rfl,W.1,W.2⟩,by simp only[vN,yw,M,ay]⟩) [] ⟨aU,aU⟩
 have j4:Tt (5,0,d,[],all,())=some (.inl (ms,())):=g1;have c9:i64.wrap ((3:Int)*5)=((15:Nat):Int):=by rw[cR u];rfl
 exact ⟨ms,by simp only[vZ,c9,q,j4],g2,g3⟩
def cS (P:bo) (d:aL):bo:=P.filter λk=>(!(Op.bytesLess k d.1||decide (k=d.1)))&&ch d k
def partsOf (d:aL) (m:bo):au:=((zq (d,m,())).map (·.1)).getD []
theorem ud (P:bo) (d:aL):(cS P d).length<=P.length:=h0 _ _
theorem Gn (d:aL) (m:bo) (ad:m.length<=10^5):zq (d,m,())=some (partsOf d m,())/\(partsOf d m).length=m.length+1:=by
 obtain ⟨l,q,G⟩:=asY d m ad;have e:partsOf d m=l:=by unfold partsOf;rw[q];rfl
 rw[e];exact ⟨q,G⟩
theorem ala (n:cE) (d:aL) (bY:n.2.2.1≠[]) (ad:n.2.1.length<=10^5):EC (n,d,())=some (partsOf d n.2.1,()):=by
 obtain ⟨q,G⟩:=Gn d n.2.1 ad;have cl:(decide ((((n.2.2.1.length):Int):Int)=(0:Int)))=false:=bm (by have:=List.length_pos_iff.2 bY;omega)
 simp only[EC,cl,ay,q]
theorem atc (r:r0) (t:aj) (aI:List bo) (p:bB) (d:aL) (x:fg) (bY:0<aI.length) (ad:(aI.getD 0 []).length<=100):
  JN r (t,aI,0,p,d,x,[],0,[],())=some (.inl (t,aI,p,d,x,[],0,cS (aI.getD 0 []) d,())):=by
 obtain ⟨P,hQ⟩: ∃P,aI.getD 0 []=P:=⟨_,rfl⟩;rw[hQ]at ad ⊢;obtain ⟨z,q,rfl⟩:=dG (b:=yU r) (λi (fP:bo)=>(t,aI,(i:Int),p,d,x,[],0,fP,())) P.length (λi fP=>fP=cS (P.take i) d) (λz=>z=.inl (t,aI,p,d,x,[],0,cS P d,())) u
  (λi E fP hm=>by
   left;have cl:bG (((0:Int):Int)<(aI.length:Int)):=aX u;have M:=e3 (i:=i) (l:=P) u;have V:=dR i;have a1:=e6 i u;have jU:fP.length<=i:=by rw[hm];have:=ud (P.take i) d;rw[ev]at this;omega
   have cI: ∀k:N,(decide ((fP.length+List.length ([k]:bo))*16<=am))=true:=λk=>aX (by rw[ey];simp;omega)
   have ah:cS (P.take (i+1)) d=fP++cS [P[i]] d:=by rw[eK E,hm];unfold cS;rw[List.filter_append]
   simp only[yU,To,cl,M,V,hQ,an,bN,bE,b5 E,UM,cI,a1];unfold cS at ah;simp only[List.filter_cons,List.filter_nil]at ah;cases G:(!(Op.bytesLess P[i] d.1||decide ((P[i]:N)=d.1)))
   ·rw[G]at ah;exact ⟨fP,by unfold cS;rw[ah];simp,by simp only[ay]⟩
   ·rw[G]at ah;cases ab:ch d P[i]
    ·rw[ab]at ah;exact ⟨fP,by unfold cS;rw[ah];simp,by simp only[an,ay]⟩
    ·rw[ab]at ah;exact ⟨fP++[P[i]],by unfold cS;rw[ah];simp,by simp only[an]⟩)
  (λfP hm=>by have cl:bG (((0:Int):Int)<(aI.length:Int)):=aX u;have M:=fD P;rw[ew]at hm;subst hm;exact ⟨_,rfl,by simp only[yU,cl,M,hQ,an,ay]⟩) [] rfl
 exact q
def qA (Q:cK) (k:Nat) (d:eR):Prop:= ∃kid,Q[k]? =some kid/\nc (kid,())=some (d,())
abbrev cb:aL:=(([]:N),(([]:N),()))
abbrev n5:eR:=(((0:Int),((0:Int),())),(((0:Int),((0:Int),())),()))
def hD (Q:cK) (t:aj):List bo->aL->Nat->Prop
 |[],d,i=>Q[i]? =some (inS d t,[],[],[],[],())
 |P::aI,d,i=> ∃(ks:dA) (sums:hs) (buf:cD),
   Q[i]? =some ([],cS P d,bM ks,sums,buf,())/\ks.length=(cS P d).length+1/\sums.length=ks.length/\ks.Nodup/\(∀k∈ks,k<i)/\
   buf.length<=5/\(∀m∈buf,gj m/\jK (m,d,())=some (true,()))/\
   ∀j,j<ks.length->hD Q t aI (List.getD (partsOf d (cS P d)) j cb) (ks.getD j 0)/\qA Q (ks.getD j 0) (sums.getD j n5)
theorem qA.app {Q:cK} (l:cK) {k:Nat} {d:eR} (h:qA Q k d):qA (Q++l) k d:=by obtain ⟨n,q,G⟩:=h;refine ⟨n,?_,G⟩;rw[List.getElem?_append_left (iK.1 q).1];exact q
theorem hD.app {Q:cK} {t:aj} (l:cK): ∀{aI:List bo} {d:aL} {i:Nat},hD Q t aI d i->hD (Q++l) t aI d i
 |[],d,i,h=>by show (Q++l)[i]? =_;rw[List.getElem?_append_left (iK.1 h).1];exact h
 |P::aI,d,i,⟨ks,sums,buf,q,G,ab,aE,bf,bF,dU,hh⟩=>by refine ⟨ks,sums,buf,?_,G,ab,aE,bf,bF,dU,λj ak=>⟨hD.app l (hh j ak).1,(hh j ak).2.app l⟩⟩;rw[List.getElem?_append_left (iK.1 q).1];exact q
theorem hD.ok {Q:cK} {t:aj} (aW:wY t): ∀{aI:List bo} {d:aL} {i:Nat},(∀s∈aI,s.length<=5)->hD Q t aI d i->pI Q (aI.length+1) i
 |[],d,i,aN,h=>⟨_,h,.inl ⟨rfl,rfl,by have:=si d t;have:=aW.len;show (inS d t).length<=1000;omega,λp aT=>aW.key p (e8.1 aT).1⟩⟩
 |P::aI,d,i,aN,⟨ks,sums,buf,q,G,ab,aE,bf,bF,dU,hh⟩=>by have hQ:=aN P gI;have hm:=ud P d;refine ⟨_,q,.inr ⟨aU,ks,rfl,G,by show (cS P d).length<=100;omega,by show sums.length<=1000;omega,bF,λm hm=>(dU m hm).1.ok,λk af=> ?_⟩⟩;obtain ⟨j,ak,rfl⟩:=List.mem_iff_getElem.1 af;have:=(hh j ak).1;rw[b5 ak]at this;exact hD.ok aW (λs hV=>aN s (gU _ hV)) this
theorem hD.lt {Q:cK} {t:aj}: ∀{aI:List bo} {d:aL} {i:Nat},hD Q t aI d i->i<Q.length
 |[],d,i,h=>(iK.1 h).1
 |P::aI,d,i,⟨ks,sums,buf,q,_⟩=>(iK.1 q).1
theorem NF {α:Type} {l:List α} {x I:α} {j:Nat} (h:j<l.length):List.getD (l++[x]) j I=l.getD j I:=by simp[List.getD,List.getElem?_append_left h]
theorem Fq {α:Type} {l:List α} {x I:α} {j:Nat} (h:j=l.length):List.getD (l++[x]) j I=x:=by subst h;simp[List.getD]
def tR:List bo->aL->Nat
 |[],_=>1
 |P::aI,d=>1+((partsOf d (cS P d)).map (tR aI)).sum
def xx (n:cE):Prop:=n.1.length<=1000/\n.2.1.length<=1000/\n.2.2.1.length<=1000/\n.2.2.2.1.length<=1000/\n.2.2.2.2.1.length<=1000
structure Fe (x:fg):Prop where
 b0:(∀y∈x.2.1.1,rM y)/\x.2.1.1.length<10^18
 b1:(∀y∈x.2.1.2.1,rM y)/\x.2.1.2.1.length<10^18
 b2:(∀y∈x.2.1.2.2.1,rM y)/\x.2.1.2.2.1.length<10^18
 b3:(∀y∈x.2.1.2.2.2.1,rM y)/\x.2.1.2.2.2.1.length<10^18
theorem atb (r:r0) (x:fg) (al:Fe x) (w:Nat) (hw:w<4) (p:bB) (d:aL) (piv:bo) (kids:ct) (sums:hs):
  ∃buf:cD,buf.length<=5/\(∀m∈buf,gj m/\jK (m,d,())=some (true,()))/\DA r ((w:Int),p,d,x,[],0,[],[],piv,kids,sums,())=vT r (p,[],0,[],piv,kids,sums,buf,()):=by
 obtain ⟨f0,a0,dF,a2⟩:=FJ _ al.b0.1 d al.b0.2;obtain ⟨f1,He,bh,ba⟩:=FJ _ al.b1.1 d al.b1.2;obtain ⟨f2,d0,d1,d2⟩:=FJ _ al.b2.1 d al.b2.2;obtain ⟨f3,g0,g1,g2⟩:=FJ _ al.b3.1 d al.b3.2;have M:=dR w;have V:bG ((w:Int)<4):=aX u;simp only[DA,M,V,an,bN,bE]
 match w,hw with
 |0,_=>exact ⟨f0,dF,a2,by simp only[a0];rfl⟩
 |1,_=>exact ⟨f1,bh,ba,by simp only[He];rfl⟩
 |2,_=>exact ⟨f2,d1,d2,by simp only[d0];rfl⟩
 |3,_=>exact ⟨f3,g1,g2,by simp only[g0];rfl⟩
structure Ai (x:fg):Prop where
 xok:Fe x
 t:(∀y∈x.1,rL y)/\x.1.length<10^18
 w:0<=x.2.2.1/\x.2.2.1<256
def nv (x:fg):aj:=mR (x.1.take 40)
def lB (x:fg):List bo:=nk.getD (x.2.2.1.toNat%4) []
theorem GW (x:fg):lB x∈nk:=by have hw:x.2.2.1.toNat%4<nk.length:=Nat.mod_lt _ fm;unfold lB;rw[b5 hw];exact dI hw
theorem Gq: ∀aI∈nk,aI.length<=2/\ ∀s∈aI,s.length<=5:=fm
def xG (k:N):Nat:=match po (k,()) with
 |some (p,e,_)=>bif !decide (e=0) then 0 else bif decide (p.2.1=1) then 1 else bif decide (p.2.1=4) then 0 else 2
 |none=>9
def mS (k:N):Nat:=match tx (k,()) with
 |some (p,e,_)=>bif !decide (e=0) then 0 else bif decide (p.2.1=1) then 1 else bif decide (p.2.1=2) then 2 else bif decide (p.2.1=3) then 2 else 0
 |none=>9
def qM (c n:Nat):tT:=match c with
 |1=>((1,(0,())),())
 |2=>((0,((n:Int),())),())
 |_=>((0,(0,())),())
theorem atC {p:ck} (h:xG p.1≠9):Kz (p,())=some (qM (xG p.1) p.2.1.length):=by
 unfold xG at h ⊢;simp only[Kz];cases e:po (p.1,()) with
 |none=>rw[e]at h;exact absurd rfl h
 |some r=>
  obtain ⟨s,x,ae⟩:=r;simp only;cases (!decide (x=0))
  ·simp only[ay];cases decide (s.2.1=1)
   ·simp only[ay];cases decide (s.2.1=4)<;>rfl
   ·rfl
  ·rfl
theorem atD {p:ck} (h:mS p.1≠9):zg (p,())=some (qM (mS p.1) p.2.1.length):=by
 unfold mS at h ⊢;simp only[zg];cases e:tx (p.1,()) with
 |none=>rw[e]at h;exact absurd rfl h
 |some r=>
  obtain ⟨s,x,ae⟩:=r;simp only;cases (!decide (x=0))
  ·simp only[ay];cases decide (s.2.1=1)
   ·simp only[ay];cases decide (s.2.1=2)
    ·simp only[ay];cases decide (s.2.1=3)<;>rfl
    ·rfl
   ·rfl
  ·rfl
theorem akC (n:Int) (bY:0<=n) (q:n<256):xG (l0 n)=mS (l0 n)/\mS (l0 n)<=2:=by obtain ⟨m,rfl⟩:=Int.eq_ofNat_of_zero_le bY;have aw:(List.range 256).all (λk=>decide (xG (l0 ((k:Nat):Int))=mS (l0 ((k:Nat):Int)))&&decide (mS (l0 ((k:Nat):Int))<=2))=true:=aC;have:=fC.1 aw m (List.mem_range.2 u);simpa using this
def KG (p:ck):Prop:=xG p.1=mS p.1/\mS p.1<=2/\p.2.1.length<=64
theorem PX {c n:Nat} (aO:n<=64):(0<=(qM c n).1.1/\(qM c n).1.1<=64)/\0<=(qM c n).1.2.1/\(qM c n).1.2.1<=64:=by unfold qM;split<;>simp<;>omega
theorem alc (l:aj) (h: ∀p∈l,KG p) (ad:l.length<=10^6):
  ∃a b:Int,Fp (l,())=some ((a,(b,())),())/\zr (l,())=some ((a,(b,())),())/\(0<=a/\a<=64*l.length)/\0<=b/\b<=64*l.length:=by
 let st:Int×Int->ck->Int×Int:=λs p=>(s.1+(qM (mS p.1) p.2.1.length).1.1,s.2+(qM (mS p.1) p.2.1.length).1.2.1)
 let F:Nat->Int×Int:=λi=>(l.take i).foldl st (0,0)
 have fj: ∀i,(E:i<l.length)->F (i+1)=st (F i) l[i]:=λi E=>by show (l.take (i+1)).foldl st (0,0)=_;rw[eK E,List.foldl_append];rfl
 have di: ∀i,i<=l.length->(0<=(F i).1/\(F i).1<=64*i)/\0<=(F i).2/\(F i).2<=64*i:=by
  intro i
  induction i with
  |zero=>intro _;exact ⟨⟨Int.le_refl _,by simp[F]⟩,Int.le_refl _,by simp[F]⟩
  |succ i aR=>
   intro E;have q:=aR u;have G:=PX (c:=mS l[i].1) (h l[i] (dI u)).2.2;rw[fj i u];simp only[st];omega
 obtain ⟨z,g1,rfl⟩:=dG (b:=rx) (λi (s:Int×Int)=>(l,(l.length:Int),(i:Int),0,0,s.1,s.2,())) l.length (λi s=>s=F i) (λz=>z=.inl (0,0,(F l.length).1,(F l.length).2,())) u
  (λi E s aN=>by left;subst aN;obtain ⟨fI,gh,nW⟩:=h l[i] (dI E);have aw:=atC (p:=l[i]) u;have L:=di i u;have hu:=PX (c:=mS l[i].1) nW;have M:=e3 (i:=i) (l:=l) u;have V:=dR i;have a1:=e6 i u;rw[fI]at aw;refine ⟨F (i+1),rfl,?_⟩;rw[fj i E];simp only[rx,M,V,an,bN,bE,b5 E,aw,a1,st];rw[cR u,cR u])
  (λs aN=>by subst aN;have M:=fD l;exact ⟨_,rfl,by simp only[rx,M,ay]⟩) (0,0) rfl
 obtain ⟨z,g2,rfl⟩:=dG (b:=tg) (λi (s:Int×Int)=>(l,(i:Int),0,0,s.1,s.2,())) l.length (λi s=>s=F i) (λz=>z=.inl (0,0,(F l.length).1,(F l.length).2,())) u
  (λi E s aN=>by left;subst aN;obtain ⟨fI,gh,nW⟩:=h l[i] (dI E);have aw:=atD (p:=l[i]) u;have L:=di i u;have hu:=PX (c:=mS l[i].1) nW;have M:=e3 (i:=i) (l:=l) u;have V:=dR i;have a1:=e6 i u;refine ⟨F (i+1),rfl,?_⟩;rw[fj i E];simp only[tg,M,V,an,bN,bE,b5 E,aw,a1,st];rw[cR u,cR u])
  (λs aN=>by subst aN;have M:=fD l;exact ⟨_,rfl,by simp only[tg,M,ay]⟩) (0,0) rfl
 have j4:Ls (l,(l.length:Int),0,0,0,0,0,())=some (.inl (0,0,(F l.length).1,(F l.length).2,())):=g1;have atU:JS (l,0,0,0,0,0,())=some (.inl (0,0,(F l.length).1,(F l.length).2,())):=g2;have L:=di l.length (ca _);exact ⟨(F l.length).1,(F l.length).2,by simp only[Fp,j4],by simp only[zr,atU],L.1,L.2⟩
def jO (d:eR):Prop:=(0<=d.1.1/\d.1.1<=d.1.2.1/\d.1.2.1<=1000000000000000)/\0<=d.2.1.1/\d.2.1.1<=d.2.1.2.1/\d.2.1.2.1<=1000000000000000
theorem aiP {n:cE} (bY:n.2.2.1=[]) (h: ∀p∈n.1,KG p) (ad:n.1.length<=10^6): ∃d,uD (n,())=some (d,())/\nc (n,())=some (d,())/\jO d:=by
 obtain ⟨a,b,q,G,ab,aE⟩:=alc n.1 h ad;have M:bG ((((n.2.2.1.length):Int):Int)=(0:Int)):=by rw[bY];rfl
 refine ⟨((a,(a,())),((b,(b,())),())),by simp only[uD,M,an,q],by simp only[nc,M,an,G,Fw],?_⟩;show (0<=a/\a<=a/\a<=_)/\0<=b/\b<=b/\b<=_;omega
theorem gj.form {m:bH} (h:gj m): ∃a k v f t d n,m=jt a k v f t d n/\(0<=a/\a<6)/\(0<=n/\n<8)/\d.1.length<=200/\d.2.1.length<=200:=by
 obtain ⟨x,⟨al,-,q,G⟩,e⟩:=h;obtain ⟨k,v,f,t,d,V,-,-,-,dy,de⟩:=OG x al;have bp:m=_:=congrArg Prod.fst (eW (e.symm.trans V));have ab:=al.1;refine ⟨_,k,v,f,_,d,_,bp,?_,?_,dy,de⟩
 ·rw[Int.tmod_eq_emod_of_nonneg ab.1];omega
 ·rw[Int.tmod_eq_emod_of_nonneg q,cR u];omega
def hH (x:Int):Int:=if x<0 then 0 else if 1000000000000000<x then 1000000000000000 else x
def gS (x:Int):Int:=if 1000000000000000<x then 1000000000000000 else x
theorem Bw {aQ E a b:Int} (c I:Int) (q: -1000000000000000<=aQ/\aQ<=1000000000000000) (G:0<=E/\E<=1000000000000000) (ab:0<=a/\a<=1000000000000000) (aE:0<=b/\b<=1000000000000000):
  tG (aQ,E,a,b,c,I,())=some (hH (a+aQ),gS (b+E),c,I,()):=by
 have M:i64.wrap (a+aQ)=a+aQ:=cR u;have V:i64.wrap (b+E)=b+E:=cR u;have a1:(if (1000000000000000:Int)<(if a+aQ<0 then 0 else a+aQ) then (1000000000000000:Int) else (if a+aQ<0 then 0 else a+aQ))=hH (a+aQ):=by
  unfold hH;by_cases h:a+aQ<0
  ·simp[h]
  ·simp[h]
 simp only[tG,M,V,a1];rfl
theorem Bx {aQ E c I:Int} (a b:Int) (q: -1000000000000000<=aQ/\aQ<=1000000000000000) (G:0<=E/\E<=1000000000000000) (ab:0<=c/\c<=1000000000000000) (aE:0<=I/\I<=1000000000000000):
  tl (aQ,E,a,b,c,I,())=some (a,b,hH (c+aQ),gS (I+E),()):=by
 have M:i64.wrap (c+aQ)=c+aQ:=cR u;have V:i64.wrap (I+E)=I+E:=cR u;have a1:(if (1000000000000000:Int)<(if c+aQ<0 then 0 else c+aQ) then (1000000000000000:Int) else (if c+aQ<0 then 0 else c+aQ))=hH (c+aQ):=by
  unfold hH;by_cases h:c+aQ<0
  ·simp[h]
  ·simp[h]
 simp only[tl,M,V,a1];rfl
theorem GR {aQ E a b c I:Int} (q: -1000000000000000<=aQ/\aQ<=1000000000000000) (G:0<=E/\E<=1000000000000000) (ab:0<=a/\a<=1000000000000000) (aE:0<=b/\b<=1000000000000000) (bf:0<=c/\c<=1000000000000000) (bF:0<=I/\I<=1000000000000000):
  zC (aQ,E,a,b,c,I,())=some (hH (a+aQ),gS (b+E),hH (c+aQ),gS (I+E),()):=by
 simp only[zC,Bw c I q G ab aE,Bx _ _ q G bf bF]
def uV (k:N):Bool:=match po (k,()) with
 |some (p,e,_)=>decide (e=0)&&decide (p.2.1=1)
 |none=>false
theorem acY: ∀k∈jF,(po (k,())).isSome=true/\tm (k,())=some (uV k,()):=by
 have h:jF.all (λk=>(po (k,())).isSome&&(match tm (k,()) with |some (b,_)=>b==uV k |none=>false))=true:=aC;intro k af;have:=fC.1 h k af;rw[bQ]at this;refine ⟨this.1,?_⟩;have G:=this.2;cases e:tm (k,()) with
 |none=>rw[e]at G;cases G
 |some s=>
  obtain ⟨b,ae⟩:=s;rw[e]at G;have:b=uV k:=by simpa using G
  rw[this]
theorem xd:(po (([]:N),())).isSome=true:=aC
theorem acv: ∀f∈fc,∀t∈fc,∃b,Aw (f,t,())=some (b,())/\tM (f,t,())=some (b,()):=by
 have h:fc.all (λf=>fc.all λt=>match Aw (f,t,()),tM (f,t,()) with |some (a,_),some (b,_)=>a==b |_,_=>false)=true:=aC;intro f aM t aW;have G:=fC.1 (fC.1 h f aM) t aW;cases e:Aw (f,t,()) with
 |none=>rw[e]at G;cases G
 |some s=>
  cases a1:tM (f,t,()) with
  |none=>rw[e,a1]at G;cases G
  |some r=>
   obtain ⟨a,ae⟩:=s;obtain ⟨b,v⟩:=r;rw[e,a1]at G;have:a=b:=by simpa using G
   subst this;exact ⟨a,rfl,rfl⟩
theorem pL (l:cD) (i:Nat) (E:i<l.length) (ad:l.length<=10^6) (x y z w a b c I:Int) (af:(po (l[i].2.1,())).isSome=true):
  tw (l,(l.length:Int),(i:Int),x,y,z,w,a,b,c,I,())=nA (uV l[i].2.1,l,(l.length:Int),(i:Int),x,y,z,w,a,b,c,I,l[i],()):=by
 have M:=e3 (i:=i) (l:=l) u;have V:=dR i;obtain ⟨s,aN⟩:=Option.isSome_iff_exists.1 af;simp only[tw,M,V,an,bN,bE,b5 E,aN,uV];obtain ⟨p,e,ae⟩:=s;simp only;cases decide (e=0)<;>rfl
theorem akd {m:bH} (hm:gj m) (a b c I:Int) (q:0<=a/\a<=b/\b<=1000000000000000) (G:0<=c/\c<=I/\I<=1000000000000000):
  ∃bs bX eD lH:Int,k7 (((a,(b,())),((c,(I,())),())),m,())=some (((bs,(bX,())),((eD,(lH,())),())),())/\(0<=bs/\bs<=bX/\bX<=1000000000000000)/\(0<=eD/\eD<=lH/\lH<=1000000000000000)/\
   ∀(l:cD) (i:Nat) (E:i<l.length) (ad:l.length<=10^6) (he:l[i]=m) (x y z w:Int),
    tw (l,(l.length:Int),(i:Int),x,y,z,w,a,b,c,I,())=some (.inl (l,(l.length:Int),((i+1:Nat):Int),x,y,z,w,bs,bX,eD,lH,())):=by
 have cC:=hm.ok;obtain ⟨s,k,v,f,t,d,n,rfl,aN,aO,-,-⟩:=hm.form;have dn:i64.wrap (b+1)=b+1:=cR u;have da: ∀i:Nat,i<=10^6->i64.wrap ((i:Int)+1)=((i+1:Nat):Int):=λi E=>by rw[cR u];omega
 have gH:i64.wrap (c-64)=c-64:=cR u;have kj:i64.wrap (a-1)=a-1:=cR u;have BW:s=0\/s=1\/s=2\/s=3\/s=4\/s=5:=u;rcases BW with rfl |rfl |rfl |rfl |rfl |rfl
 ·
  have gO:jt 0 k v f t d n=(1,k,v,([],[],()),[],[],n,()):=rfl;rw[gO]at cC ⊢;have af:k∈jF:=cC.key (.inl rfl);have a8:v.length<=10:=cC.val rfl;obtain ⟨fI,gh⟩:=acY k af;have Eb:i64.wrap (I+(v.length:Int))=I+(v.length:Int):=cR u;cases q4:uV k with
  |true=>
   refine ⟨a,(if b+1<1000000000000000 then b+1 else 1000000000000000),c,I,?_,by split<;>omega,G,λl i E ad he x y z w=> ?_⟩
   ·simp only[k7,cJ,an,gh,q4,rC,dn]
   ·rw[pL l i E ad _ _ _ _ _ _ _ _ (by rw[he];exact fI)];have bw:hH (a+0)=a:=by unfold hH;split<;>(try split)<;>omega
    have bS:gS (b+1)=(if b+1<1000000000000000 then b+1 else 1000000000000000):=by unfold gS;split<;>split<;>omega
    simp only[he,q4,nA,ow,cJ,an,Bw (aQ:=(0:Int)) (E:=1) (a:=a) (b:=b) c I u u u u,bw,bS,da i u]
  |false=>
   refine ⟨a,b,(if 0<c-64 then c-64 else 0),(if I+(v.length:Int)<1000000000000000 then I+(v.length:Int) else 1000000000000000),?_,q,by split<;>split<;>omega,λl i E ad he x y z w=> ?_⟩
   ·simp only[k7,cJ,an,ay,gh,q4,rC,tC,gH,Eb]
   ·rw[pL l i E ad _ _ _ _ _ _ _ _ (by rw[he];exact fI)];have bw:hH (c+ -64)=(if 0<c-64 then c-64 else 0):=by unfold hH;split<;>split<;>(try split)<;>omega
    have bS:gS (I+(v.length:Int))=(if I+(v.length:Int)<1000000000000000 then I+(v.length:Int) else 1000000000000000):=by unfold gS;split<;>split<;>omega
    simp only[he,q4,nA,ow,cJ,an,ay,Bx (aQ:=(-64:Int)) (E:=(v.length:Int)) (c:=c) (I:=I) a b u u u u,bw,bS,da i u]
 ·
  have gO:jt 1 k v f t d n=(2,k,[],([],[],()),[],[],0,()):=rfl;rw[gO]at cC ⊢;have af:k∈jF:=cC.key (.inr rfl);obtain ⟨fI,gh⟩:=acY k af;have f1:(decide ((2:Int)=1))=false:=rfl;cases q4:uV k with
  |true=>
   refine ⟨(if 0<a-1 then a-1 else 0),b,c,I,?_,by split<;>omega,G,λl i E ad he x y z w=> ?_⟩
   ·simp only[k7,f1,cJ,an,ay,gh,q4,tC,kj]
   ·rw[pL l i E ad _ _ _ _ _ _ _ _ (by rw[he];exact fI)];have bw:hH (a+ -1)=(if 0<a-1 then a-1 else 0):=by unfold hH;split<;>split<;>(try split)<;>omega
    have bS:gS (b+0)=b:=by unfold gS;split<;>omega
    simp only[he,q4,nA,ow,qb,f1,cJ,an,ay,Bw (aQ:=(-1:Int)) (E:=0) (a:=a) (b:=b) c I u u u u,bw,bS,da i u]
  |false=>
   refine ⟨a,b,(if 0<c-64 then c-64 else 0),I,?_,q,by split<;>omega,λl i E ad he x y z w=> ?_⟩
   ·simp only[k7,f1,cJ,an,ay,gh,q4,tC,gH]
   ·rw[pL l i E ad _ _ _ _ _ _ _ _ (by rw[he];exact fI)];have bw:hH (c+ -64)=(if 0<c-64 then c-64 else 0):=by unfold hH;split<;>split<;>(try split)<;>omega
    have bS:gS (I+0)=I:=by unfold gS;split<;>omega
    simp only[he,q4,nA,ow,qb,f1,cJ,an,ay,Bx (aQ:=(-64:Int)) (E:=0) (c:=c) (I:=I) a b u u u u,bw,bS,da i u]
 ·
  have gO:jt 2 k v f t d n=(3,[],[],d,[],[],0,()):=rfl;rw[gO]at cC ⊢;have f1:(decide ((3:Int)=1))=false:=rfl;have f2:(decide ((3:Int)=2))=false:=rfl;have f6:(decide ((3:Int)=6))=false:=rfl;refine ⟨0,b,0,I,?_,u,u,λl i E ad he x y z w=> ?_⟩
  ·simp only[k7,f1,f2,f6,cJ,an,ay]
  ·rw[pL l i E ad _ _ _ _ _ _ _ _ (by rw[he];exact xd)];have bw:hH (a+ -1000000000000000)=0:=by unfold hH;split<;>(try split)<;>omega
   have bS:gS (b+0)=b:=by unfold gS;split<;>omega
   have dD:hH (c+ -1000000000000000)=0:=by unfold hH;split<;>(try split)<;>omega
   have du:gS (I+0)=I:=by unfold gS;split<;>omega
   simp only[he,nA,ow,qb,f1,f2,f6,cJ,an,ay,GR (aQ:=(-1000000000000000:Int)) (E:=0) (a:=a) (b:=b) (c:=c) (I:=I) u u u u u u,bw,bS,dD,du,da i u]
 ·
  have gO:jt 3 k v f t d n=(4,[],[],([],[],()),f,t,0,()):=rfl;rw[gO]at cC ⊢;obtain ⟨N5,g1,g2⟩:=acv f (cC.from_ (.inl rfl)) t (cC.to_ (.inl rfl));have f1:(decide ((4:Int)=1))=false:=rfl;have f2:(decide ((4:Int)=2))=false:=rfl;have f3:(decide ((4:Int)=3))=false:=rfl;have f5:(decide ((4:Int)=5))=false:=rfl;have f6:(decide ((4:Int)=6))=false:=rfl;have bw:hH (a+ -1000000000000000)=0:=by unfold hH;split<;>(try split)<;>omega
  have dD:hH (c+ -1000000000000000)=0:=by unfold hH;split<;>(try split)<;>omega
  cases N5 with
  |false=>
   refine ⟨0,1000000000000000,0,1000000000000000,?_,u,u,λl i E ad he x y z w=> ?_⟩
   ·simp only[k7,f1,f2,f3,f6,ay,g2,cU,an]
   ·rw[pL l i E ad _ _ _ _ _ _ _ _ (by rw[he];exact xd)];have bS:gS (b+1000000000000000)=1000000000000000:=by unfold gS;split<;>omega
    have du:gS (I+1000000000000000)=1000000000000000:=by unfold gS;split<;>omega
    simp only[he,nA,ow,qb,f1,f2,f3,f6,g1,cU,an,ay,GR (aQ:=(-1000000000000000:Int)) (E:=1000000000000000) (a:=a) (b:=b) (c:=c) (I:=I) u u u u u u,bw,bS,dD,du,da i u]
  |true=>
   refine ⟨0,b,0,I,?_,u,u,λl i E ad he x y z w=> ?_⟩
   ·simp only[k7,f1,f2,f3,f5,f6,ay,g2,cL]
   ·rw[pL l i E ad _ _ _ _ _ _ _ _ (by rw[he];exact xd)];have bS:gS (b+0)=b:=by unfold gS;split<;>omega
    have du:gS (I+0)=I:=by unfold gS;split<;>omega
    simp only[he,nA,ow,qb,f1,f2,f3,f5,f6,g1,cL,an,ay,GR (aQ:=(-1000000000000000:Int)) (E:=0) (a:=a) (b:=b) (c:=c) (I:=I) u u u u u u,bw,bS,dD,du,da i u]
 ·
  have gO:jt 4 k v f t d n=(5,[],[],([],[],()),f,t,0,()):=rfl;rw[gO]at cC ⊢;obtain ⟨N5,g1,g2⟩:=acv f (cC.from_ (.inr rfl)) t (cC.to_ (.inr rfl));have f1:(decide ((5:Int)=1))=false:=rfl;have f2:(decide ((5:Int)=2))=false:=rfl;have f3:(decide ((5:Int)=3))=false:=rfl;have f6:(decide ((5:Int)=6))=false:=rfl;have bw:hH (a+ -1000000000000000)=0:=by unfold hH;split<;>(try split)<;>omega
  have dD:hH (c+ -1000000000000000)=0:=by unfold hH;split<;>(try split)<;>omega
  cases N5 with
  |false=>
   refine ⟨0,1000000000000000,0,1000000000000000,?_,u,u,λl i E ad he x y z w=> ?_⟩
   ·simp only[k7,f1,f2,f3,f6,ay,g2,cU,an]
   ·rw[pL l i E ad _ _ _ _ _ _ _ _ (by rw[he];exact xd)];have bS:gS (b+1000000000000000)=1000000000000000:=by unfold gS;split<;>omega
    have du:gS (I+1000000000000000)=1000000000000000:=by unfold gS;split<;>omega
    simp only[he,nA,ow,qb,f1,f2,f3,f6,g1,cU,an,ay,GR (aQ:=(-1000000000000000:Int)) (E:=1000000000000000) (a:=a) (b:=b) (c:=c) (I:=I) u u u u u u,bw,bS,dD,du,da i u]
  |true=>
   have Tg:i64.wrap (b+b)=b+b:=cR u;have ayK:i64.wrap (I+I)=I+I:=cR u;refine ⟨0,(if b+b<1000000000000000 then b+b else 1000000000000000),0,(if I+I<1000000000000000 then I+I else 1000000000000000),?_,by split<;>omega,by split<;>omega,λl i E ad he x y z w=> ?_⟩
   ·simp only[k7,f1,f2,f3,f6,ay,g2,cL,cJ,an,rC,Tg,ayK]
   ·rw[pL l i E ad _ _ _ _ _ _ _ _ (by rw[he];exact xd)];have bS:gS (b+b)=(if b+b<1000000000000000 then b+b else 1000000000000000):=by unfold gS;split<;>split<;>omega
    have du:gS (I+I)=(if I+I<1000000000000000 then I+I else 1000000000000000):=by unfold gS;split<;>split<;>omega
    simp only[he,nA,ow,qb,f1,f2,f3,f6,g1,cL,cJ,an,ay,Bw (aQ:=(-1000000000000000:Int)) (E:=b) (a:=a) (b:=b) c I u u u u,Bx (aQ:=(-1000000000000000:Int)) (E:=I) (c:=c) (I:=I) 0 (if b+b<1000000000000000 then b+b else 1000000000000000) u u u u,bw,bS,dD,du,da i u]
 ·
  have gO:jt 5 k v f t d n=(6,[],[],d,[],[],n,()):=rfl;rw[gO]at cC ⊢;have f1:(decide ((6:Int)=1))=false:=rfl;have f2:(decide ((6:Int)=2))=false:=rfl;have f3:(decide ((6:Int)=3))=false:=rfl;refine ⟨a,b,c,I,?_,q,G,λl i E ad he x y z w=> ?_⟩
  ·simp only[k7,f1,f2,cJ,an,ay]
  ·rw[pL l i E ad _ _ _ _ _ _ _ _ (by rw[he];exact xd)];simp only[he,nA,ow,qb,f1,f2,f3,cJ,an,ay,da i u]
def o2 (x:Int):Int:=if x<1000000000000000 then x else 1000000000000000
def xA (d t:eR):eR:=((o2 (d.1.1+t.1.1),(o2 (d.1.2.1+t.1.2.1),())),((o2 (d.2.1.1+t.2.1.1),(o2 (d.2.1.2.1+t.2.1.2.1),())),()))
theorem akA {d t:eR} (ah:jO d) (aW:jO t):jO (xA d t):=by
 obtain ⟨⟨dF,a2,a3⟩,a4,a5,om⟩:=ah;obtain ⟨⟨b1,b2,b3⟩,hG,hN,j1⟩:=aW;refine ⟨⟨?_,?_,?_⟩,?_,?_,?_⟩<;>simp only[xA,o2]
 ·split<;>omega
 ·split<;>split<;>omega
 ·split<;>omega
 ·split<;>omega
 ·split<;>split<;>omega
 ·split<;>omega
theorem ajN {d t:eR} (ah:jO d) (aW:jO t):AA (d,t,())=some (xA d t,()):=by obtain ⟨⟨dF,a2,a3⟩,a4,a5,om⟩:=ah;obtain ⟨⟨b1,b2,b3⟩,hG,hN,j1⟩:=aW;have M:i64.wrap (d.1.1+t.1.1)=d.1.1+t.1.1:=cR u;have V:i64.wrap (d.1.2.1+t.1.2.1)=d.1.2.1+t.1.2.1:=cR u;have a1:i64.wrap (d.2.1.1+t.2.1.1)=d.2.1.1+t.2.1.1:=cR u;have bp:i64.wrap (d.2.1.2.1+t.2.1.2.1)=d.2.1.2.1+t.2.1.2.1:=cR u;simp only[AA,M,V,a1,bp];rfl
theorem ajF {x:Int} (h:0<=x):hH x=o2 x:=by unfold hH o2;split<;>(try split)<;>(try split)<;>omega
theorem ajE {x:Int}:gS x=o2 x:=by unfold gS o2;split<;>split<;>omega
def o0 (d:eR) (m:bH):eR:=((k7 (d,m,())).map (·.1)).getD n5
theorem Po {d:eR} {m:bH} (ah:jO d) (hm:gj m):k7 (d,m,())=some (o0 d m,())/\jO (o0 d m)/\ ∀(l:cD) (i:Nat) (E:i<l.length) (ad:l.length<=10^6) (he:l[i]=m) (x y z w:Int),
  tw (l,(l.length:Int),(i:Int),x,y,z,w,d.1.1,d.1.2.1,d.2.1.1,d.2.1.2.1,())=some (.inl (l,(l.length:Int),((i+1:Nat):Int),x,y,z,w,(o0 d m).1.1,(o0 d m).1.2.1,(o0 d m).2.1.1,(o0 d m).2.1.2.1,())):=by
 obtain ⟨⟨a,b,jW⟩,⟨c,I,pB⟩,rT⟩:=d;obtain ⟨bs,bX,eD,lH,q,G,ab,aE⟩:=akd hm a b c I ah.1 ah.2;have e:o0 ((a,(b,())),((c,(I,())),())) m=((bs,(bX,())),((eD,(lH,())),())):=by unfold o0;rw[q];rfl
 rw[e];exact ⟨q,⟨G,ab⟩,aE⟩
theorem asH {n:cE} (bY:n.2.2.1≠[]) (ah: ∀d∈n.2.2.2.1,jO d) (oF:n.2.2.2.1.length<=1000) (L: ∀m∈n.2.2.2.2.1,gj m) (Cj:n.2.2.2.2.1.length<=1000):
  ∃d,uD (n,())=some (d,())/\nc (n,())=some (d,())/\jO d:=by
 have cl:(decide ((((n.2.2.1.length):Int):Int)=(0:Int)))=false:=bm (by have:=List.length_pos_iff.2 bY;omega)
 obtain ⟨S,vi⟩: ∃S,n.2.2.2.1=S:=⟨_,rfl⟩;obtain ⟨dQ,lK⟩: ∃dQ,n.2.2.2.2.1=dQ:=⟨_,rfl⟩;rw[vi]at ah oF;rw[lK]at L Cj
 let F:Nat->eR:=λi=>(S.take i).foldl xA n5
 have fj: ∀i,(E:i<S.length)->F (i+1)=xA (F i) S[i]:=λi E=>by show (S.take (i+1)).foldl xA n5=_;rw[eK E,List.foldl_append];rfl
 have QS: ∀i,i<=S.length->jO (F i):=by
  intro i
  induction i with
  |zero=>
   intro _;show jO n5;exact ⟨⟨Int.le_refl _,Int.le_refl _,fm⟩,Int.le_refl _,Int.le_refl _,fm⟩
  |succ i aR=>intro E;rw[fj i u];exact akA (aR u) (ah _ (dI u))
 let hd:Nat->eR:=λi=>(dQ.take i).foldl o0 (F S.length)
 have c7: ∀i,(E:i<dQ.length)->hd (i+1)=o0 (hd i) dQ[i]:=λi E=>by show (dQ.take (i+1)).foldl o0 _=_;rw[eK E,List.foldl_append];rfl
 have QT: ∀i,i<=dQ.length->jO (hd i):=by
  intro i
  induction i with
  |zero=>intro _;exact QS _ (ca _)
  |succ i aR=>intro E;rw[c7 i u];exact (Po (aR u) (L _ (dI u))).2.1
 have g1:NJ (S,(S.length:Int),0,n,0,0,0,0,0,0,0,0,())=some (.inl (n,0,0,0,0,(F S.length).1.1,(F S.length).1.2.1,(F S.length).2.1.1,(F S.length).2.1.2.1,())):=by
  obtain ⟨z,g1,rfl⟩:=dG (b:=Ex) (λi (s:eR)=>(S,(S.length:Int),(i:Int),n,0,0,0,0,s.1.1,s.1.2.1,s.2.1.1,s.2.1.2.1,())) S.length (λi s=>s=F i) (λz=>z=.inl (n,0,0,0,0,(F S.length).1.1,(F S.length).1.2.1,(F S.length).2.1.1,(F S.length).2.1.2.1,())) u
   (λi E s aN=>by left;subst aN;obtain ⟨⟨dF,a2,a3⟩,a4,a5,om⟩:=QS i u;obtain ⟨⟨b1,b2,b3⟩,hG,hN,j1⟩:=ah _ (dI E);have M:=e3 (i:=i) (l:=S) u;have V:=dR i;have a1:=e6 i u;have bp:=Bw (aQ:=S[i].1.1) (E:=S[i].1.2.1) (a:=(F i).1.1) (b:=(F i).1.2.1) (F i).2.1.1 (F i).2.1.2.1 u u u u;have cI:=Bx (aQ:=S[i].2.1.1) (E:=S[i].2.1.2.1) (c:=(F i).2.1.1) (I:=(F i).2.1.2.1) (o2 ((F i).1.1+S[i].1.1)) (o2 ((F i).1.2.1+S[i].1.2.1)) u u u u;rw[ajF u,ajE]at bp cI;refine ⟨F (i+1),rfl,?_⟩;rw[fj i E];simp only[Ex,M,V,an,bN,bE,b5 E,bp,cI,a1];rfl)
   (λs aN=>by subst aN;have M:=fD S;exact ⟨_,rfl,by simp only[Ex,M,ay]⟩) n5 rfl
  exact g1
 have g2:Ko (0,n,0,0,0,0,n5,())=some (.inl (n,0,0,0,0,F S.length,())):=by
  obtain ⟨z,g1,rfl⟩:=dG (b:=tq) (λi (s:eR)=>((i:Int),n,0,0,0,0,s,())) S.length (λi s=>s=F i) (λz=>z=.inl (n,0,0,0,0,F S.length,())) u
   (λi E s aN=>by left;subst aN;have M:=e3 (i:=i) (l:=S) u;have V:=dR i;have a1:=e6 i u;refine ⟨F (i+1),rfl,?_⟩;simp only[tq,vi,M,V,an,bN,bE,b5 E,ajN (QS i u) (ah _ (dI E)),a1,fj i E])
   (λs aN=>by subst aN;have M:=fD S;exact ⟨_,rfl,by simp only[tq,vi,M,ay]⟩) n5 rfl
  exact g1
 have g3:NK (dQ,(dQ.length:Int),0,0,0,0,0,(F S.length).1.1,(F S.length).1.2.1,(F S.length).2.1.1,(F S.length).2.1.2.1,())=some (.inl (0,0,0,0,(hd dQ.length).1.1,(hd dQ.length).1.2.1,(hd dQ.length).2.1.1,(hd dQ.length).2.1.2.1,())):=by
  obtain ⟨z,g1,rfl⟩:=dG (b:=tw) (λi (s:eR)=>(dQ,(dQ.length:Int),(i:Int),0,0,0,0,s.1.1,s.1.2.1,s.2.1.1,s.2.1.2.1,())) dQ.length (λi s=>s=hd i) (λz=>z=.inl (0,0,0,0,(hd dQ.length).1.1,(hd dQ.length).1.2.1,(hd dQ.length).2.1.1,(hd dQ.length).2.1.2.1,())) u
   (λi E s aN=>by left;subst aN;have h:=(Po (QT i u) (L _ (dI E))).2.2 dQ i E u rfl 0 0 0 0;refine ⟨hd (i+1),rfl,?_⟩;rw[c7 i E];exact h)
   (λs aN=>by subst aN;have M:=fD dQ;exact ⟨_,rfl,by simp only[tw,M,ay]⟩) (F S.length) rfl
  exact g1
 have g4:Kp (0,n,0,0,0,0,F S.length,())=some (.inl (0,0,0,0,hd dQ.length,())):=by
  obtain ⟨z,g1,rfl⟩:=dG (b:=tr) (λi (s:eR)=>((i:Int),n,0,0,0,0,s,())) dQ.length (λi s=>s=hd i) (λz=>z=.inl (0,0,0,0,hd dQ.length,())) u
   (λi E s aN=>by left;subst aN;have M:=e3 (i:=i) (l:=dQ) u;have V:=dR i;have a1:=e6 i u;refine ⟨hd (i+1),rfl,?_⟩;simp only[tr,lK,M,V,an,bN,bE,b5 E,(Po (QT i u) (L _ (dI E))).1,a1,c7 i E])
   (λs aN=>by subst aN;have M:=fD dQ;exact ⟨_,rfl,by simp only[tr,lK,M,ay]⟩) (F S.length) rfl
  exact g1
 refine ⟨hd dQ.length,?_,?_,QT _ (ca _)⟩
 ·simp only[uD,cl,ay,vi,g1,lK,g3]
 ·simp only[nc,cl,ay,g2,g4]
abbrev bT:ck->N:=λp=>p.1
theorem adw (p:ck): ∀t:aj,cO bT t->cO bT (ins p t)
 |[],_=>List.pairwise_singleton _ _
 |x::t,h=>by
  unfold ins;cases L:Op.bytesLess x.1 p.1 with
  |true=>
   rw[an];refine List.pairwise_cons.2 ⟨λy bt=> ?_,adw p t h.tail⟩;rcases Pz p y t bt with rfl |bt
   ·exact L
   ·exact h.head y bt
  |false=>
   rw[ay];refine List.pairwise_cons.2 ⟨λy bt=> ?_,List.Pairwise.filter _ h⟩;obtain ⟨q,G⟩:=e8.1 bt;have cw:y.1≠p.1:=by simpa using G
   have s9:Op.bytesLess y.1 x.1=false:=by
    rcases e7.1 q with rfl |q
    ·exact iC _
    ·exact j3 (h.head y q)
   show Op.bytesLess p.1 y.1=true;rcases ih p.1 y.1 with ab |ab |ab
   ·exact ab
   ·exact absurd ab.symm cw
   ·
    rcases ih p.1 x.1 with aE |aE |aE
    ·rw[gK ab aE]at s9;cases s9
    ·rw[aE]at ab;rw[ab]at s9;cases s9
    ·rw[aE]at L;cases L
theorem acs (l:l4):cO bT (mR l):=by
 have key: ∀(l:l4) (t:aj),cO bT t->cO bT (l.foldl (λt x=>ins (oR x) t) t):=by
  intro l
  induction l with
  |nil=>intro t h;exact h
  |cons x l aR=>intro t h;exact aR _ (adw _ _ h)
 exact key l [] List.Pairwise.nil
theorem zI (d:aL) (k:N):pz (d,k,())=some (ch d k,()):=by
 simp only[pz,ch];cases q:Op.bytesLess k d.1
 ·cases G:decide (d.2.1=[])
  ·simp only[cU,an,Bool.true_and,Bool.false_or]
  ·simp only[cU,cL,an,ay,Bool.true_and,Bool.true_or]
 ·simp only[cL,ay,Bool.false_and]
structure cN (t:aj):Prop where
 len:t.length<=1000
 srt:cO bT t
 key: ∀p∈t,1<=p.1.length/\p.1.length<=65535
 val: ∀p∈t,p.2.1.length<=64
 stamp: ∀p∈t,0<=p.2.2.1/\p.2.2.1<=1000000000
 chg: ∀p∈t,KG p
theorem adi (n:Int):(Al n).length<=4:=by
 unfold Al;obtain ⟨m,hm⟩: ∃m,(n%4).toNat=m:=⟨_,rfl⟩;have:m<4:=u;rw[hm]
 match m,this with
 |0,_=>decide
 |1,_=>decide
 |2,_=>decide
 |3,_=>decide
theorem ajn (l:l4) (h: ∀x∈l,rL x) (ad:l.length<=1000):cN (mR l):=by
 have hm: ∀p∈mR l,∃y,rL y/\p=oR y:=λp aT=>by obtain ⟨y,bt,e⟩:=OP l p aT;exact ⟨y,h y bt,e⟩
 refine ⟨Nat.le_trans (AN l) ad,acs l,λp aT=> ?_,λp aT=> ?_,λp aT=> ?_,λp aT=> ?_⟩
 ·obtain ⟨y,bt,rfl⟩:=hm p aT;obtain ⟨-,a6,cp⟩:=Oq y.1 bt.1.1 bt.1.2;show 1<=(l0 y.1).length/\(l0 y.1).length<=65535;omega
 ·obtain ⟨y,bt,rfl⟩:=hm p aT;have:=adi y.2.1;show (Al y.2.1).length<=64;omega
 ·obtain ⟨y,bt,rfl⟩:=hm p aT;show 0<=y.2.2.1%4/\y.2.2.1%4<=1000000000;omega
 ·obtain ⟨y,bt,rfl⟩:=hm p aT;have c:=akC y.1 bt.1.1 bt.1.2;have:=adi y.2.1;exact ⟨c.1,c.2,by show (Al y.2.1).length<=64;omega⟩
theorem cN.inS {t:aj} (h:cN t) (d:aL):cN (inS d t):=
 ⟨Nat.le_trans (si d t) h.len,List.Pairwise.filter _ h.srt,λp aT=>h.key p (e8.1 aT).1,λp aT=>h.val p (e8.1 aT).1,λp aT=>h.stamp p (e8.1 aT).1,λp aT=>h.chg p (e8.1 aT).1⟩
theorem Zl (t:aj) (ah:cO bT t) (ad:t.length<=10^6):FD (t,())=some (true,()):=by
 obtain ⟨z,q,rfl⟩:=dG (b:=DI) (λi (_:H)=>(t,((i+1:Nat):Int),())) (t.length-1) (λ_ _=>True) (λz=>z=.inr ()) u
  (λi E _ _=>by
   left;have cl:i64.wrap (((i+1:Nat):Int)-1)=(i:Int):=by rw[cR u];omega
   have M:bG (((i+1:Nat):Int)<((t.length):Int)):=aX u;have V:=dR i;have a1:=e3 (i:=i) (l:=t) u;have bp:bG ((0:Int)<=((i+1:Nat):Int)):=aX u;have cI:i64.wrap (((i+1:Nat):Int)+1)=((i+1+1:Nat):Int):=by rw[cR u];omega
   have hT:i<t.length:=u;have e5:i+1<t.length:=u;have c9:Op.bytesLess t[i].1 t[i+1].1=true:=List.pairwise_iff_getElem.1 ah _ _ hT e5 u;exact ⟨(),trivial,by simp only[DI,cl,M,V,a1,bp,an,ay,bN,bE,b5 hT,b5 e5,c9,cL,cI]⟩)
  (λ_ _=>by have M:(decide (((t.length-1+1:Nat):Int)<((t.length):Int)))=false:=bm u;exact ⟨_,rfl,by simp only[DI,M,ay]⟩) () trivial
 have dr:L7 (t,(1:Int),())=some (.inr ()):=q;simp only[FD,dr]
theorem aa4 {p:ck} (q:1<=p.1.length/\p.1.length<=65535) (G:p.2.1.length<=64) (ab:0<=p.2.2.1/\p.2.2.1<=1000000000):J5 (p,())=some (true,()):=by have M:bG ((((p.1.length):Int):Int)>=(1:Int)):=aX u;have V:bG ((((p.1.length):Int):Int)<=(65535:Int)):=aX u;have a1:bG ((((p.2.1.length):Int):Int)<=(64:Int)):=aX u;have bp:bG ((p.2.2.1:Int)>=(0:Int)):=aX ab.1;have cI:bG ((p.2.2.1:Int)<=(1000000000:Int)):=aX ab.2;simp only[J5,M,V,a1,bp,cI,an]
theorem ar0 {t:aj} (aW:cN t) (d:aL):tH ((inS d t,[],[],[],[],()),d,())=some (true,()):=by
 have bW:=aW.inS d;obtain ⟨T,aes⟩: ∃T,inS d t=T:=⟨_,rfl⟩;have au2: ∀p∈T,ch d p.1=true:=λp aT=>by rw[<-aes]at aT;exact (e8.1 aT).2
 rw[aes]at bW ⊢;obtain ⟨z,q,rfl⟩:=dG (b:=se) (λi (_:H)=>(T,(T.length:Int),(i:Int),d,())) T.length (λ_ _=>True) (λz=>z=.inr (d,())) (by have:=bW.len;omega)
  (λi E _ _=>by left;have ad:=bW.len;have M:=e3 (i:=i) (l:=T) u;have V:=dR i;have a1:=e6 i u;have hm:=dI E;have bp:=aa4 (bW.key _ hm) (bW.val _ hm) (bW.stamp _ hm);exact ⟨(),trivial,by simp only[se,M,V,an,ay,bN,bE,b5 E,Ki,bp,cL,cU,zI,au2 _ hm,a1]⟩)
  (λ_ _=>by have M:=fD T;exact ⟨_,rfl,by simp only[se,M,ay]⟩) () trivial
 have dr:Hw (T,(T.length:Int),0,d,())=some (.inr (d,())):=q;have G:=Zl T bW.srt (by have:=bW.len;omega);have cl:bG ((((List.length ([]:ct)):Int):Int)=(0:Int)):=rfl;have M:bG (i64.wrap (i64.wrap (((List.length ([]:bo)):Int)+((List.length ([]:hs)):Int))+((List.length ([]:cD)):Int))=(0:Int)):=rfl;have V:(decide ((-1:Int)>=(0:Int)))=false:=rfl;simp only[tH,cl,M,an,G,Hk,Hl,dr,V,cU]
theorem px: ∀(t:aB) (x:t.den),aB.eqb t x x=true
 | .bool,x=>by simp[aB.eqb]
 | .int _,x=>by simp[aB.eqb]
 | .str,x=>by simp[aB.eqb]
 | .pair a b,x=>by simp[aB.eqb,px a,px b]
 | .list _,_=>rfl
 | .unit,_=>rfl
 | .opq,_=>rfl
theorem are {d:aL} (h:n1 d):la (d,())=some (false,()):=by
 unfold la;rcases h with h |h
 ·simp only[h,cJ,cL,ay]
 ·have G:=j3 h;have ab: ¬d.2.1=d.1:=λe=>by rw[e,iC]at h;cases h
  simp only[G,bm ab,Bool.or_false];cases (!decide (d.2.1=([]:N)))<;>rfl
theorem xz {a b c:Int} (q:b<=a) (G:a<=c):qG (a,b,c,())=some (true,()):=by simp only[qG,aX q,aX G,an]
theorem ajO (a b:N):sw (a,b,())=some (b7 a b,()):=by
 unfold b7;by_cases h:b.length<=a.length
 ·have bh:((a.length:Int)>=(b.length:Int)):=u;have ba:((0:Int)<=(b.length:Int)):=u;have c3:((b.length:Int)<=(a.length:Int)):=u;simp only[sw,bh,ba,c3,aX h,aX,an,bN,bE,Bool.true_and,List.drop_zero,Int.toNat_zero]
 ·have bh: ¬((a.length:Int)>=(b.length:Int)):=u;simp only[sw,bh,bm h,bm,ay,Bool.false_and,not_false_eq_true]
theorem abH: ∀p∈fc,1<=p.length/\p.length<=200:=fm
theorem acy {f t:N} (aM:f∈fc) (aW:t∈fc) (h:b7 f t=false/\b7 t f=false):AH (f,t,())=some (true,()):=by obtain ⟨dF,a2⟩:=abH f aM;obtain ⟨b1,b2⟩:=abH t aW;have M:=xz (a:=(f.length:Int)) (b:=1) (c:=200) u u;have V:=xz (a:=(t.length:Int)) (b:=1) (c:=200) u u;simp only[AH,M,V,an,Dh,ajO,h.1,h.2,cU]
theorem adr {d:aL} (h:n1 d) (q:d.1.length<=200) (G:d.2.1.length<=200):AW (d,())=some (true,()):=by have e:bG ((if ((d.1.length:Int))<((d.2.1.length:Int)) then ((d.2.1.length):Int) else ((d.1.length):Int))<=(65535:Int)):=aX (by split<;>omega);simp only[AW,are h,cU,an,e]
theorem uc: ∀k∈jF,1<=k.length/\k.length<=100:=by have hlen:jF.all (λk=>decide (1<=k.length)&&decide (k.length<=100))=true:=aC;intro k af;have:=fC.1 hlen k af;simpa using this
theorem xh {k:N} (h:k∈jF):qq (k,())=some ((k,(k++[0],())),())/\oL (k,())=some ((k,(k++[0],())),()):=by have:=(uc k h).2;have e:bG (k.length+List.length ([0]:N)<=am):=aX (by rw[ey];simp;omega);exact ⟨by simp only[qq,e,an],by simp only[oL,e,an]⟩
theorem AT {m:bH} (hm:gj m):oK (m,())=some (true,())/\ ∃R cP:au,rQ (m,())=some (R,())/\nO (m,())=some (R,())/\qf (m,())=some (cP,())/\lI (m,())=some (cP,())/\R.length<=2/\cP.length<=2:=by
 have cC:=hm.ok;obtain ⟨s,k,v,f,t,d,n,rfl,aN,aO,lR,ri⟩:=hm.form;have BW:s=0\/s=1\/s=2\/s=3\/s=4\/s=5:=u;rcases BW with rfl |rfl |rfl |rfl |rfl |rfl
 ·have gO:jt 0 k v f t d n=(1,k,v,([],[],()),[],[],n,()):=rfl;rw[gO]at cC ⊢;have af:k∈jF:=cC.key (.inl rfl);have a8:v.length<=10:=cC.val rfl;have M:=xz (a:=(k.length:Int)) (b:=1) (c:=65535) (by have:=(uc k af).1;omega) (by have:=(uc k af).2;omega);have V:=xz (a:=n) (b:=0) (c:=1000000000) u u;have a1:bG ((((v.length):Int):Int)<=(64:Int)):=aX u;have f4:(decide ((1:Int)=4))=false:=rfl;have f5:(decide ((1:Int)=5))=false:=rfl;have f6:(decide ((1:Int)=6))=false:=rfl;exact ⟨by simp only[oK,Mp,cJ,an,M,a1,V,Nb,px],[],[(k,(k++[0],()))],by simp only[rQ,Mo,cJ,an],by simp only[nO,ry,f4,f5,f6,ay],by simp only[qf,LA,cJ,an,(xh af).1],by simp only[lI,ou,cJ,an,(xh af).2],aU,aU⟩
 ·have gO:jt 1 k v f t d n=(2,k,[],([],[],()),[],[],0,()):=rfl;rw[gO]at cC ⊢;have af:k∈jF:=cC.key (.inr rfl);have M:=xz (a:=(k.length:Int)) (b:=1) (c:=65535) (by have:=(uc k af).1;omega) (by have:=(uc k af).2;omega);have f1:(decide ((2:Int)=1))=false:=rfl;have f4:(decide ((2:Int)=4))=false:=rfl;have f5:(decide ((2:Int)=5))=false:=rfl;have f6:(decide ((2:Int)=6))=false:=rfl;exact ⟨by simp only[oK,Mk,f1,cJ,an,ay,M,M9,px],[],[(k,(k++[0],()))],by simp only[rQ,Mj,f1,cJ,an,ay],by simp only[nO,ry,f4,f5,f6,ay],by simp only[qf,Lu,f1,cJ,an,ay,(xh af).1],by simp only[lI,ou,f1,cJ,an,ay,(xh af).2],aU,aU⟩
 ·have gO:jt 2 k v f t d n=(3,[],[],d,[],[],0,()):=rfl;rw[gO]at cC ⊢;have ah:n1 d:=cC.span (.inl rfl);have M:=adr ah lR ri;have f1:(decide ((3:Int)=1))=false:=rfl;have f2:(decide ((3:Int)=2))=false:=rfl;have f4:(decide ((3:Int)=4))=false:=rfl;have f5:(decide ((3:Int)=5))=false:=rfl;have f6:(decide ((3:Int)=6))=false:=rfl;exact ⟨by simp only[oK,Lx,f1,f2,cJ,an,ay,M,Ml,px],[],[d],by simp only[rQ,Lw,f1,f2,cJ,an,ay],by simp only[nO,ry,f4,f5,f6,ay],by simp only[qf,TK,f1,f2,cJ,an,ay],by simp only[lI,ou,f1,f2,f4,f5,ay],aU,aU⟩
 ·have gO:jt 3 k v f t d n=(4,[],[],([],[],()),f,t,0,()):=rfl;rw[gO]at cC ⊢;have aM:=cC.from_ (.inl rfl);have aW:=cC.to_ (.inl rfl);have M:=acy aM aW (cC.apart (.inl rfl));obtain ⟨fI,gh,-⟩:=mA f (na f aM);obtain ⟨ag,aS,-⟩:=mA t (na t aW);have f1:(decide ((4:Int)=1))=false:=rfl;have f2:(decide ((4:Int)=2))=false:=rfl;have f3:(decide ((4:Int)=3))=false:=rfl;exact ⟨by simp only[oK,Lz,f1,f2,f3,cJ,an,ay,M,Mm,px],[dW f],[dW f,dW t],by simp only[rQ,Ly,f1,f2,f3,cJ,an,ay,fI],by simp only[nO,ry,cJ,an,gh],by simp only[qf,TL,f1,f2,f3,cJ,an,ay,fI,ag],by simp only[lI,ou,f1,f2,cJ,an,ay,gh,aS],aU,aU⟩
 ·have gO:jt 4 k v f t d n=(5,[],[],([],[],()),f,t,0,()):=rfl;rw[gO]at cC ⊢;have aM:=cC.from_ (.inr rfl);have aW:=cC.to_ (.inr rfl);have M:=acy aM aW (cC.apart (.inr rfl));obtain ⟨fI,gh,-⟩:=mA f (na f aM);obtain ⟨ag,aS,-⟩:=mA t (na t aW);have f1:(decide ((5:Int)=1))=false:=rfl;have f2:(decide ((5:Int)=2))=false:=rfl;have f3:(decide ((5:Int)=3))=false:=rfl;have f4:(decide ((5:Int)=4))=false:=rfl;exact ⟨by simp only[oK,TJ,f1,f2,f3,f4,cJ,an,ay,M,Lt,px],[dW f],[dW t],by simp only[rQ,TI,f1,f2,f3,f4,cJ,an,ay,fI],by simp only[nO,ry,f4,cJ,an,ay,gh],by simp only[qf,Tq,f1,f2,f3,f4,cJ,an,ay,ag],by simp only[lI,ou,f1,f2,f4,cJ,an,ay,aS],aU,aU⟩
 ·have gO:jt 5 k v f t d n=(6,[],[],d,[],[],n,()):=rfl;rw[gO]at cC ⊢;have ah:n1 d:=cC.span (.inr rfl);have M:=adr ah lR ri;have V:=xz (a:=n) (b:=0) (c:=1000000000) u u;have f1:(decide ((6:Int)=1))=false:=rfl;have f2:(decide ((6:Int)=2))=false:=rfl;have f3:(decide ((6:Int)=3))=false:=rfl;have f4:(decide ((6:Int)=4))=false:=rfl;have f5:(decide ((6:Int)=5))=false:=rfl;exact ⟨by simp only[oK,TO,f1,f2,f3,f4,f5,cJ,an,ay,M,V,LB,px],[d],[d],by simp only[rQ,TN,f1,f2,f3,f4,f5,cJ,an,ay],by simp only[nO,ry,f4,f5,cJ,an,ay],by simp only[qf,Tr,f1,f2,f3,f4,f5,cJ,an,ay],by simp only[lI,ou,f1,f2,f4,f5,ay],aU,aU⟩
theorem arL {d x:aL} (h:me (d,x,())=some (true,())):pk (d,x,())=some (true,()):=by
 have iZ: ∀y:aL,mZ (y,())=la (y,()):=λy=>rfl
 obtain ⟨ex,hex⟩: ∃e,mZ (x,())=some (e,()):=AE x;obtain ⟨es,aeG⟩: ∃e,mZ (d,())=some (e,()):=AE d;have Ct:=(iZ x).symm.trans hex;cases ex with
 |true=>simp only[pk,Ct,cL,ay]
 |false=>
  cases es with
  |true=>simp only[me,hex,aeG,cU,cL,an,ay]at h;cases h
  |false=>
   simp only[me,hex,aeG,cU,an]at h;cases fs:(Op.bytesLess d.1 x.1||decide ((d.1:N)=x.1)) with
   |false=>rw[fs]at h;cases h
   |true=>
    rw[fs]at h;simp only[an]at h;have Il:Op.bytesLess x.1 d.1=false:=by
     rcases Bool.or_eq_true_iff.1 fs with q |q
     ·exact j3 q
     ·rw[of_decide_eq_true q];exact iC _
    by_cases ah:d.2.1=[]
    ·have bg:ch d x.1=true:=by unfold ch;rw[Il,aX ah];rfl
     by_cases al:x.2.1=[]
     ·have M:bG ((d.2.1:N)=x.2.1):=aX (by rw[ah,al]);simp only[pk,Ct,cU,an,zI,bg,pT,M];rfl
     ·have M:(decide ((d.2.1:N)=x.2.1))=false:=bm (by rw[ah];exact λh=>al h.symm);simp only[pk,Ct,cU,an,ay,zI,bg,pT,M,aX ah];rfl
    ·by_cases al:x.2.1=[]
     ·simp only[qg,bm ah,cU,an,aX al,cL,ay]at h;cases h
     ·simp only[qg,bm ah,bm al,cU,an]at h;have jm:Op.bytesLess d.2.1 x.2.1=false:=by
       cases L:Op.bytesLess d.2.1 x.2.1
       ·rfl
       ·rw[L]at h;cases h
      have cw:Op.bytesLess x.1 x.2.1=true:=by
       simp only[mZ,bm al,cU,an]at hex;have he:(Op.bytesLess x.2.1 x.1||decide ((x.2.1:N)=x.1))=false:=congrArg Prod.fst (eW hex);rw[Bool.or_eq_false_iff]at he;rcases ih x.1 x.2.1 with q |q |q
       ·exact q
       ·exact absurd q.symm (of_decide_eq_false he.2)
       ·rw[he.1]at q;cases q
      have vB:Op.bytesLess x.1 d.2.1=true:=by
       rcases ih x.2.1 d.2.1 with q |q |q
       ·exact gK cw q
       ·rw[<-q];exact cw
       ·rw[jm]at q;cases q
      have bg:ch d x.1=true:=by unfold ch;rw[Il,vB];simp
      have HI: ∀y:N,vF (y,())=some (false,()):=λy=>by simp[vF]
      by_cases he:d.2.1=x.2.1
      ·simp only[pk,Ct,cU,an,zI,bg,pT,aX he];rfl
      ·simp only[pk,Ct,cU,an,ay,zI,bg,pT,bm he,bm ah,bm al,C9,HI,jm,Bool.false_or];rfl
theorem aaL {m:bH} {d:aL} {R cP:au} (kq:nO (m,())=some (R,())) (kr:lI (m,())=some (cP,())) (ar:R.length<=2) (hw:cP.length<=2) (h:jK (m,d,())=some (true,())): ∀x∈R++cP,me (d,x,())=some (true,()):=by
 have M:bG ((List.length ([]:List (aL))+R.length)*32<=am):=aX (by rw[ey];simp;omega);have V:bG ((List.length (([]:List (aL))++R)+cP.length)*32<=am):=aX (by rw[ey];simp;omega);obtain ⟨l,ad⟩: ∃l,([]++R)++cP=l:=⟨_,rfl⟩;have Rp:l.length<=4:=by rw[<-ad];simp;omega
 have h5:R++cP=l:=by rw[<-ad];rfl
 obtain ⟨z,q,G⟩:=dG (b:=pg) (λi (_:H)=>((i:Int),d,l,())) l.length (λi _=> ∀j (ak:j<l.length),j<i->me (d,l[j],())=some (true,())) (λz=>z=.inl (false,())\/(z=.inr ()/\ ∀x∈l,me (d,x,())=some (true,()))) u
  (λi E _ ak=>by
   have M:=e3 (i:=i) (l:=l) u;have V:=dR i;have a1:=e6 i u;obtain ⟨r,ar⟩:=On d l[i];simp only[pg,M,V,an,bN,bE,b5 E,ar,a1];cases r
   ·exact .inr ⟨_,.inl rfl,rfl⟩
   ·refine .inl ⟨(),λj hj bu=> ?_,rfl⟩;rcases Nat.lt_or_ge j i with h |h
    ·exact ak j hj h
    ·have:j=i:=u;subst this;exact ar)
  (λ_ ak=>by have M:=fD l;refine ⟨_,.inr ⟨rfl,λx al=> ?_⟩,by simp only[pg,M,ay]⟩;obtain ⟨j,hj,rfl⟩:=List.mem_iff_getElem.1 al;exact ak j hj hj) () (λj ak h=>u)
 have dr:DY (0,d,l,())=some z:=q;rcases G with rfl |⟨rfl,ab⟩
 ·simp only[jK,kq,kr,M,V,an,ad,dr]at h;cases h
 ·intro x al;rw[h5]at al;exact ab x al
theorem aiS {m:bH} {d:aL} {R cP:au} (kq:nO (m,())=some (R,())) (kr:lI (m,())=some (cP,())) (ar:R.length<=2) (hw:cP.length<=2) (h:jK (m,d,())=some (true,())): ∀x∈R++cP,pk (d,x,())=some (true,()):=
 λx al=>arL (aaL kq kr ar hw h x al)
theorem atj (l:au) (d:aL) (ad:l.length<=1000) (h: ∀x∈l,pk (d,x,())=some (true,())):Hu (l,d,())=some (false,d,()):=by
 obtain ⟨z,q,rfl⟩:=dG (b:=B0) (λi (_:H)=>(l,(l.length:Int),(i:Int),d,())) l.length (λ_ _=>True) (λz=>z=.inr (d,())) u
  (λi E _ _=>by left;have M:=e3 (i:=i) (l:=l) u;have V:=dR i;have a1:=e6 i u;exact ⟨(),trivial,by simp only[B0,M,V,an,ay,bN,bE,b5 E,D8,h _ (dI E),cL,a1]⟩)
  (λ_ _=>by have M:=fD l;exact ⟨_,rfl,by simp only[B0,M,ay]⟩) () trivial
 have dr:Qu (l,(l.length:Int),0,d,())=some (.inr (d,())):=q;have V:(decide ((-1:Int)>=(0:Int)))=false:=rfl;simp only[Hu,QE,dr,V]
theorem atk (l:au) (d:aL) (ad:l.length<=1000) (h: ∀x∈l,pk (d,x,())=some (true,())):Hv (l,d,())=some (false,l,d,()):=by
 obtain ⟨z,q,rfl⟩:=dG (b:=B1) (λi (_:H)=>((l.length:Int),(i:Int),l,d,())) l.length (λ_ _=>True) (λz=>z=.inr (l,d,())) u
  (λi E _ _=>by left;have M:=e3 (i:=i) (l:=l) u;have V:=dR i;have a1:=e6 i u;exact ⟨(),trivial,by simp only[B1,M,V,an,ay,bN,bE,b5 E,D8,h _ (dI E),cL,a1]⟩)
  (λ_ _=>by have M:=fD l;exact ⟨_,rfl,by simp only[B1,M,ay]⟩) () trivial
 have dr:Qv ((l.length:Int),0,l,d,())=some (.inr (l,d,())):=q;have V:(decide ((-1:Int)>=(0:Int)))=false:=rfl;simp only[Hv,QF,dr,V]
theorem alh {m:bH} {d:aL} (hm:gj m) (ad:jK (m,d,())=some (true,())):Kj (m,d,())=some (false,d,()):=by obtain ⟨v,R,cP,q,G,ab,aE,bf,bF⟩:=AT hm;have aV:=aiS G aE bf bF ad;have kq:=atj R d u (λx al=>aV x (dp.2 (.inl al)));have kr:=atk cP d u (λx al=>aV x (dp.2 (.inr al)));simp only[Kj,v,q,ab,kq,kr,cL,cU,an]
theorem ajC (l:cD) (d:aL) (ad:l.length<=1000) (h: ∀m∈l,gj m/\jK (m,d,())=some (true,())):Ht (l,d,())=some (false,d,()):=by
 obtain ⟨z,q,rfl⟩:=dG (b:=BL) (λi (_:H)=>(l,(l.length:Int),(i:Int),d,())) l.length (λ_ _=>True) (λz=>z=.inr (d,())) u
  (λi E _ _=>by left;have M:=e3 (i:=i) (l:=l) u;have V:=dR i;have a1:=e6 i u;obtain ⟨bh,ba⟩:=h _ (dI E);exact ⟨(),trivial,by simp only[BL,M,V,an,ay,bN,bE,b5 E,alh bh ba,a1]⟩)
  (λ_ _=>by have M:=fD l;exact ⟨_,rfl,by simp only[BL,M,ay]⟩) () trivial
 have dr:QI (l,(l.length:Int),0,d,())=some (.inr (d,())):=q;have V:(decide ((-1:Int)>=(0:Int)))=false:=rfl;simp only[Ht,Sa,dr,V]
theorem asd {s:eR} (h:jO s):J6 (s,())=some (true,()):=by
 obtain ⟨⟨dF,a2,a3⟩,b1,b2,b3⟩:=h;obtain ⟨l,ad⟩: ∃l:List lS,[s.1,s.2.1]=l:=⟨_,rfl⟩;have dS: ∀r∈l,0<=r.1/\r.1<=r.2.1/\r.2.1<=1000000000000000:=by
  intro r ar;rw[<-ad]at ar;simp only[e7,List.not_mem_nil,or_false]at ar;rcases ar with rfl |rfl
  ·exact ⟨dF,a2,a3⟩
  ·exact ⟨b1,b2,b3⟩
 have Rp:l.length=2:=by rw[<-ad];rfl
 obtain ⟨z,q,rfl⟩:=dG (b:=Dk) (λi (_:H)=>((l.length:Int),(i:Int),l,())) l.length (λ_ _=>True) (λz=>z=.inr ()) u
  (λi E _ _=>by left;have M:=e3 (i:=i) (l:=l) u;have V:=dR i;have a1:=e6 i u;obtain ⟨bh,ba,c3⟩:=dS _ (dI E);have bp:(decide (l[i].1<(0:Int)))=false:=bm u;have cI:(decide (l[i].1>l[i].2.1))=false:=bm u;have c9:(decide (l[i].2.1>(1000000000000000:Int)))=false:=bm u;exact ⟨(),trivial,by simp only[Dk,M,V,an,ay,bN,bE,b5 E,bp,cI,c9,cU,a1]⟩)
  (λ_ _=>by have M:=fD l;exact ⟨_,rfl,by simp only[Dk,M,ay]⟩) () trivial
 have dr:Ts ((l.length:Int),0,l,())=some (.inr ()):=q;simp only[J6,ad,dr]
def EH (ps:bo) (d:aL):Prop:= ∀i (h:i<ps.length),Op.bytesLess (List.getD (d.1::ps) i []) ps[i]=true/\(d.2.1=[]\/Op.bytesLess ps[i] d.2.1=true)
theorem ak9 (ps:bo) (n:cE) (d:aL) (ad:ps.length<=1000) (h:EH ps d):Mr (d.1,ps,(ps.length:Int),0,n,d,())=some (.inr (n,d,())):=by
 obtain ⟨z,q,rfl⟩:=dG (b:=vX) (λi (_:H)=>(List.getD (d.1::ps) i [],ps,(ps.length:Int),(i:Int),n,d,())) ps.length (λ_ _=>True) (λz=>z=.inr (n,d,())) u
  (λi E _ _=>by
   left;have M:=e3 (i:=i) (l:=ps) u;have V:=dR i;have a1:=e6 i u;obtain ⟨bh,ba⟩:=h i E;have bp:=j3 bh;have cI:(decide ((ps[i]:N)=List.getD (d.1::ps) i []))=false:=bm (λe=>by rw[<-e,iC]at bh;cases bh);have c9:List.getD (d.1::ps) (i+1) []=ps[i]:=by show ps.getD i []=_;exact b5 E
   refine ⟨(),trivial,?_⟩;rw[c9];rcases ba with ba |ba
   ·simp only[vX,M,V,an,ay,bN,bE,b5 E,bp,cI,Bool.or_false,cU,aX ba,cL,a1]
   ·cases ao:(!decide (d.2.1=([]:N)))
    ·simp only[vX,M,V,an,ay,bN,bE,b5 E,bp,cI,Bool.or_false,cU,ao,a1]
    ·simp only[vX,M,V,an,ay,bN,bE,b5 E,bp,cI,Bool.or_false,cU,ao,ba,cL,a1])
  (λ_ _=>by have M:=fD ps;exact ⟨_,rfl,by simp only[vX,M,ay]⟩) () trivial
 exact q
theorem akq (ks:dA) (n:cE) (d:aL) (ad:ks.length<=1000) (af: ∀k∈ks,k<4096) (ah:n.2.2.2.1.length=ks.length) (E: ∀s∈n.2.2.2.1,jO s):Ms (bM ks,(ks.length:Int),0,n,d,())=some (.inr (n,d,())):=by
 obtain ⟨S,vi⟩: ∃S,n.2.2.2.1=S:=⟨_,rfl⟩;rw[vi]at ah E;obtain ⟨z,q,rfl⟩:=dG (b:=DR) (λi (_:H)=>(bM ks,(ks.length:Int),(i:Int),n,d,())) ks.length (λ_ _=>True) (λz=>z=.inr (n,d,())) u
  (λi e5 _ _=>by left;have aeU:i<S.length:=u;have M:bG (((i:Nat):Int)<((ks.length:Nat):Int)):=aX u;have atL:bG (((i:Nat):Int)<((List.length (bM ks):Nat):Int)):=aX (by rw[fO];omega);have atM:bG (((i:Nat):Int)<((S.length:Nat):Int)):=aX u;have V:=dR i;have a1:=e6 i u;have kv:=af _ (dI e5);have bp:(decide (((ks[i]:Nat):Int)<(0:Int)))=false:=bm u;have cI:(decide (((ks[i]:Nat):Int)>=(4096:Int)))=false:=bm u;exact ⟨(),trivial,by simp only[DR,vi,M,atL,atM,V,an,ay,bN,bE,k9 e5,b5 aeU,bp,cI,cU,asd (E _ (dI aeU)),cL,a1]⟩)
  (λ_ _=>by have M:(decide (((ks.length:Nat):Int)<((ks.length:Nat):Int)))=false:=bm u;exact ⟨_,rfl,by simp only[DR,M,ay]⟩) () trivial
 exact q
theorem aaK {piv:bo} {ks:dA} {sums:hs} {buf:cD} {d:aL} (q:ks.length=piv.length+1) (G:sums.length=ks.length) (m6:ks.length<=100) (aT:EH piv d) (af: ∀k∈ks,k<4096) (ah: ∀s∈sums,jO s) (L: ∀m∈buf,gj m/\jK (m,d,())=some (true,())) (Cj:buf.length<=100):
  tH (([],piv,bM ks,sums,buf,()),d,())=some (true,()):=by
 have cl:(decide ((ks.length:Int)=(0:Int)))=false:=bm u;have M:(decide ((((List.length ([]:aj)):Int):Int)>(0:Int)))=false:=rfl;have V:bG ((((sums.length):Int):Int)=(ks.length:Int)):=aX u;have a1:i64.wrap ((ks.length:Int)-1)=(piv.length:Int):=by rw[cR u];omega
 have bp:bG ((((piv.length):Int):Int)=(piv.length:Int)):=aX rfl;have g1:=ak9 piv ([],piv,bM ks,sums,buf,()) d u aT;have g2:=akq ks ([],piv,bM ks,sums,buf,()) d u af G ah;have g3:=ajC buf d u L;have cI:((List.length (bM ks):Nat):Int)=(ks.length:Int):=by rw[fO]
 simp only[tH,cl,M,V,a1,bp,ay,cU,cL,an,J4,g1,cI,g2,g3,cJ]
theorem adB {P:bo} (hQ:P.Pairwise λa b=>Op.bytesLess a b=true) (d:aL):EH (cS P d) d:=by
 have hm:(cS P d).Pairwise λa b=>Op.bytesLess a b=true:=List.Pairwise.filter _ hQ
 have aM: ∀k∈cS P d,Op.bytesLess d.1 k=true/\(d.2.1=[]\/Op.bytesLess k d.2.1=true):=by
  intro k af;obtain ⟨-,G⟩:=e8.1 af;simp only[bQ,eT,Bool.or_eq_false_iff,ch,Bool.or_eq_true_iff,dT,decide_eq_false_iff_not]at G;obtain ⟨⟨dF,a2⟩,a3,a4⟩:=G;refine ⟨?_,a4⟩;rcases ih d.1 k with h |h |h
  ·exact h
  ·exact absurd h.symm a2
  ·rw[h]at dF;cases dF
 intro i E;refine ⟨?_,(aM _ (dI E)).2⟩;cases i with
 |zero=>exact (aM _ (dI E)).1
 |succ i=>
  show Op.bytesLess (List.getD (cS P d) i []) _=true;rw[b5 (show i<(cS P d).length by omega)];exact List.pairwise_iff_getElem.1 hm _ _ _ E u
def qV:List bo->aL->Bool
 |[],_=>true
 |P::aI,d=>(match rR (d,cS P d,()) with
   |some (l,_)=>decide (l=partsOf d (cS P d))
   |none=>false)&&(partsOf d (cS P d)).all (qV aI)
theorem ads: ∀aI∈nk,qV aI cb=true:=by have h:nk.all (λaI=>qV aI cb)=true:=aC;exact λaI aT=>fC.1 h aI aT
theorem abN: ∀aI∈nk,∀P∈aI,P.Pairwise λa b=>Op.bytesLess a b=true:=fm
theorem Oo {P:bo} {aI:List bo} {d:aL} (h:qV (P::aI) d=true):rR (d,cS P d,())=some (partsOf d (cS P d),())/\ ∀s∈partsOf d (cS P d),qV aI s=true:=by
 rw[qV,bQ]at h;obtain ⟨q,G⟩:=h;refine ⟨?_,λs aN=>fC.1 G s aN⟩;cases e:rR (d,cS P d,()) with
 |none=>rw[e]at q;cases q
 |some r=>
  obtain ⟨l,ae⟩:=r;rw[e]at q;have:l=partsOf d (cS P d):=of_decide_eq_true q;rw[this]
theorem Nc {n:cE} {d:aL} {l:au} (bY:n.2.2.1≠[]) (h:rR (d,n.2.1,())=some (l,())):Av (n,d,())=some (l,()):=by
 have cl:(decide ((((n.2.2.1.length):Int):Int)=(0:Int)))=false:=bm (by have:=List.length_pos_iff.2 bY;omega)
 simp only[Av,cl,ay,h]
theorem AY {Q:cK} {t:aj} (aW:cN t): ∀{aI:List bo} {d:aL} {i:Nat},(∀s∈aI,s.length<=5)->hD Q t aI d i-> ∃n s,Q[i]? =some n/\uD (n,())=some (s,())/\nc (n,())=some (s,())/\jO s
 |[],d,i,_,h=>by obtain ⟨s,q,G,ab⟩:=aiP (n:=(inS d t,[],[],[],[],())) rfl (λp aT=>(aW.inS d).chg p aT) (by have:=(aW.inS d).len;show (inS d t).length<=_;omega);exact ⟨_,s,h,q,G,ab⟩
 |P::aI,d,i,aN,⟨ks,sums,buf,q,G,ab,aE,bf,bF,dU,hh⟩=>by
  have hm:=ud P d;have hQ:=aN P gI;have ah: ∀s∈sums,jO s:=by intro s CO;obtain ⟨j,ak,rfl⟩:=List.mem_iff_getElem.1 CO;obtain ⟨bh,n,ba,c3⟩:=hh j u;obtain ⟨ec,bS,d1,d2,d3,d4⟩:=AY aW (λs hV=>aN s (gU _ hV)) bh;obtain rfl:=eW (ba.symm.trans d1);rw[b5 ak]at c3;have:=eW (c3.symm.trans d3);have s4:sums[j]=bS:=congrArg Prod.fst this;rw[s4];exact d4
  obtain ⟨s,g1,g2,g3⟩:=asH (n:=([],cS P d,bM ks,sums,buf,())) (by intro e;have:=congrArg List.length e;have V:(bM ks).length=([]:ct).length:=this;rw[fO,List.length_nil]at V;omega) ah (by show sums.length<=1000;omega) (λm hm=>(dU m hm).1) (by show buf.length<=1000;omega)
  exact ⟨_,s,q,g1,g2,g3⟩
theorem PB {ks:dA} (h:0<ks.length):bM ks≠[]:=by intro e;have:=congrArg List.length e;rw[fO,List.length_nil]at this;omega
theorem as4 (w:Int) (hw:0<=w/\w<256):wB (zj w,())=some (true,()):=by
 obtain ⟨m,rfl⟩:=Int.eq_ofNat_of_zero_le hw.1;have aw:(List.range 256).all (λk=>match wB (zj ((k:Nat):Int),()) with |some (b,_)=>b |none=>false)=true:=aC;have:=fC.1 aw m (List.mem_range.2 u);cases e:wB (zj ((m:Nat):Int),()) with
 |none=>rw[e]at this;cases this
 |some s=>
  obtain ⟨b,ae⟩:=s;rw[e]at this;have L:b=true:=this;rw[L]
theorem hD.set {Q:cK} {t:aj} {r:Nat} (a7:cE): ∀{aI:List bo} {d:aL} {i:Nat},i<r->hD Q t aI d i->hD (Q.set r a7) t aI d i
 |[],d,i,E,h=>by show (Q.set r a7)[i]? =_;rw[List.getElem?_set_ne u];exact h
 |P::aI,d,i,E,⟨ks,sums,buf,q,G,ab,aE,bf,bF,dU,hh⟩=>by
  refine ⟨ks,sums,buf,?_,G,ab,aE,bf,bF,dU,λj ak=> ?_⟩
  ·rw[List.getElem?_set_ne u];exact q
  ·have af:ks.getD j 0<i:=by rw[b5 ak];exact bf _ (dI ak)
   obtain ⟨bh,n,ba,c3⟩:=hh j ak;exact ⟨bh.set a7 u,n,by rw[List.getElem?_set_ne u];exact ba,c3⟩
structure azc (Q:cK) (t:aj) (P:bo) (aI:List bo) (root:Nat) (ks:dA) (sums:hs) (buf:cD):Prop where
 n:Q[root]? =some ([],cS P cb,bM ks,sums,buf,())
 kl:ks.length=(cS P cb).length+1
 sl:sums.length=ks.length
 ml:(cS P cb).length<=5
 piv:EH (cS P cb) cb
 lt: ∀k∈ks,k<root
 r:root<900
 ins: ∀s∈sums,jO s
 bl:buf.length<=5
 buf: ∀m∈buf,gj m/\jK (m,cb,())=some (true,())
 kid: ∀j,j<ks.length->hD Q t aI (List.getD (partsOf cb (cS P cb)) j cb) (ks.getD j 0)/\qA Q (ks.getD j 0) (sums.getD j n5)
 sp:rR (cb,cS P cb,())=some (partsOf cb (cS P cb),())
 pl:(partsOf cb (cS P cb)).length=(cS P cb).length+1
 good: ∀s∈partsOf cb (cS P cb),qV aI s=true
section
variable {Q:cK} {t:aj} {P:bo} {aI:List bo} {root:Nat} {ks:dA} {sums:hs} {buf:cD}
end
theorem GB {x y:N}:(mT x y<0)↔Op.bytesLess x y=true:=by
 unfold mT;split
 ·simp[*]
 ·rename_i h;split
  ·rename_i he;subst he;simp[iC]
  ·simp[h]
theorem atw (l:aj) (k:N) (ah:cO bT l) (ad:l.length<10^13):
  Hd (l,k,())=some ((dP bT k l:Int),ha (key:=bT) k l,()):=by
 have hle:=qF (key:=bT) k l;obtain ⟨r,q,G⟩:=ab8 (b:=Hc) (λd=>(d.2.2.2.2.1-d.2.2.2.1).toNat)
  (λd=> ∃er fS:Nat,d=(l,k,(l.length:Int),(er:Int),(fS:Int),())/\er<=fS/\fS<=l.length/\(∀(m:Nat) (h:m<l.length),m<er->Op.bytesLess (l[m]).1 k=true)/\(∀(m:Nat) (h:m<l.length),fS<=m->Op.bytesLess (l[m]).1 k=false))
  (λr=>r=.inl (l,k,(l.length:Int),(dP bT k l:Int),()))
  (λd E=>by
   obtain ⟨er,fS,rfl,i1,i2,i3,i4⟩:=E;have hm:=ak3 (er:=er) (fS:=fS) u;unfold Hc;simp only[hm];by_cases pc:er<fS
   ·left;have bh:((er:Int)<(fS:Int)):=u;have dn:i64.wrap (((er+fS)/2:Nat):Int)=(((er+fS)/2:Nat):Int):=cR u;have ba:((0:Int)<=(((er+fS)/2:Nat):Int)):=u;have c3:((((er+fS)/2:Nat):Int)<(l.length:Int)):=u;have bu:(er+fS)/2<l.length:=u;have bC:l.getD ((er+fS)/2) (([]:N),(([]:N),((0:Int),())))=l[(er+fS)/2]:=b5 bu;have da:i64.wrap ((((er+fS)/2:Nat):Int)+1)=(((er+fS)/2+1:Nat):Int):=by rw[cR u];omega
    simp only[dn,bh,ba,c3,aX,an,bN,bE,bC,abq,da];cases L:Op.bytesLess (l[(er+fS)/2]).1 k
    ·have ga: ¬(mT (l[(er+fS)/2]).1 k<0):=by rw[GB,L];simp
     simp only[ga,bm,ay,not_false_eq_true];refine ⟨_,rfl,⟨er,(er+fS)/2,rfl,u,u,i3,λm h hm=> ?_⟩,by simp;omega⟩;rcases Nat.lt_or_ge m fS with bf |bf
     ·cases eE:Op.bytesLess (l[m]).1 k
      ·rfl
      ·rcases Nat.eq_or_lt_of_le hm with bF |bF
       ·subst bF;rw[L]at eE;cases eE
       ·have dU:Op.bytesLess (l[(er+fS)/2]).1 (l[m]).1=true:=List.pairwise_iff_getElem.1 ah _ _ bu h bF;have:=gK dU eE;rw[L]at this;cases this
     ·exact i4 m h bf
    ·have ga:(mT (l[(er+fS)/2]).1 k<0):=by rw[GB,L]
     simp only[ga,aX,an];refine ⟨_,rfl,⟨(er+fS)/2+1,fS,rfl,u,i2,λm h hm=> ?_,i4⟩,by simp;omega⟩;rcases Nat.eq_or_lt_of_le (show m<=(er+fS)/2 by omega) with bF |bF
     ·subst bF;exact L
     ·have dU:Op.bytesLess (l[m]).1 (l[(er+fS)/2]).1=true:=List.pairwise_iff_getElem.1 ah _ _ h bu bF;exact gK dU L
   ·right;have bh: ¬((er:Int)<(fS:Int)):=u;have he:er=fS:=u;subst he;simp only[bh,bm,ay,not_false_eq_true];refine ⟨_,rfl,?_⟩;have:=abA (key:=bT) k l ah er i2 i3 i4;rw[this])
  (l,k,(l.length:Int),(0:Int),(l.length:Int),()) ⟨0,l.length,aU,u,u,λm h hm=>u,λm h hm=>u⟩ (by simp;omega)
 subst G;unfold Hd P3;simp only[q];by_cases bu:dP bT k l<l.length
 ·have bh:((dP bT k l:Int)<(l.length:Int)):=u;have ba:((0:Int)<=(dP bT k l:Int)):=u;have bC:l.getD (dP bT k l) (([]:N),(([]:N),((0:Int),())))=l[dP bT k l]:=b5 bu;simp only[bh,ba,aX,an,bN,bE,bC,abq];rw[adt k l ah bu];congr 2;have:(mT (l[dP bT k l]).1 k=0)↔(l[dP bT k l]).1=k:=ajG;simp only[this]
 ·have bh: ¬((dP bT k l:Int)<(l.length:Int)):=u;simp only[bh,bm,ay,not_false_eq_true];rw[O8 k l u]
theorem O6 (l:aj) (k:N) (ah:cO bT l) (ad:l.length<10^13):wu (l,k,())=some ((dP bT k l:Int),ha (key:=bT) k l,()):=by unfold wu;simp only[atw l k ah ad]
section
variable {α:Type} {key:α->N}
theorem Bf (k:N): ∀l:List α,cO key l->l.take (dP key k l)=l.filter λa=>Op.bytesLess (key a) k
 |[],_=>rfl
 |a::l,ah=>by
  unfold dP;by_cases h:Op.bytesLess (key a) k=true
  ·rw[if_pos h,List.take_succ_cons,Bf k l ah.tail,List.filter_cons,if_pos h]
  ·rw[if_neg h,List.take_zero]
   symm
   rw[List.filter_eq_nil_iff];intro b L bu;rcases e7.1 L with rfl |L
   ·exact h bu
   ·exact h (gK (ah.head b L) bu)
theorem GG (k:N): ∀l:List α,cO key l->l.drop (dP key k l)=l.filter λa=> !Op.bytesLess (key a) k
 |[],_=>rfl
 |a::l,ah=>by
  unfold dP;by_cases h:Op.bytesLess (key a) k=true
  ·rw[if_pos h,List.drop_succ_cons,GG k l ah.tail,List.filter_cons,if_neg (by rw[h];simp)]
  ·rw[if_neg h,List.drop_zero]
   symm
   rw[List.filter_eq_self];intro b L;rcases e7.1 L with rfl |L
   ·simpa using h
   ·cases bu:Op.bytesLess (key b) k
    ·rfl
    ·exact absurd (gK (ah.head b L) bu) h
theorem Bu {aQ E:N} (h:Op.bytesLess aQ E=true): ∀l:List α,cO key l->dP key aQ l<=dP key E l
 |[],_=>ca _
 |a::l,ah=>by
  unfold dP;have aR:=Bu h l ah.tail;by_cases q:Op.bytesLess (key a) aQ=true
  ·rw[if_pos q,if_pos (gK q h)];omega
  ·rw[if_neg q];omega
theorem ak4 {aQ E:N} (h:Op.bytesLess aQ E=true) (l:List α) (ah:cO key l):(l.take (dP key E l)).drop (dP key aQ l)=l.filter λa=> !Op.bytesLess (key a) aQ&&Op.bytesLess (key a) E:=by
 have e:dP key aQ (l.take (dP key E l))=dP key aQ l:=by
  symm
  have hle:=Bu h l ah;have Rn:=qF (key:=key) E l;apply abA aQ _ (List.Pairwise.sublist (List.take_sublist _ _) ah)
  ·rw[ev];omega
  ·intro m hm q;rw[List.getElem_take];exact PN aQ l m (by rw[ev]at hm;omega) q
  ·intro m hm q;rw[List.getElem_take];exact PM aQ l ah m (by rw[ev]at hm;omega) q
 conv=>lhs;rw[<-e]
 rw[GG aQ _ (List.Pairwise.sublist (List.take_sublist _ _) ah),Bf E l ah,List.filter_filter]
end
theorem Pv (d:aL) (k:N):AI (d,k,())=some (ch d k,()):=by unfold AI ch;cases Op.bytesLess k d.1<;>cases decide ((d.2.1:N)=[])<;>simp
theorem acG (d:aL) (h:n1 d):la (d,())=some (false,()):=by
 unfold la;rcases h with h |h
 ·have:decide ((d.2.1:N)=[])=true:=aX h;simp only[this,cL,ay]
 ·have aO:d.2.1≠[]:=by intro e;rw[e]at h;cases d.1<;>simp[Op.bytesLess]at h
  have:decide ((d.2.1:N)=[])=false:=bm aO;have G:decide ((d.2.1:N)=d.1)=false:=bm (λe=>nj h e.symm);simp only[this,cU,an,j3 h,G,Bool.or_self]
theorem as0 (t:aj) (d:aL) (h:n1 d) (ah:cO bT t) (ad:t.length<10^13):FB (t,d,())=some (t.filter (λp=>ch d p.1),()):=by
 have q:=qF (key:=bT) d.1 t;have G:=qF (key:=bT) d.2.1 t;unfold FB Ed;simp only[acG d h,ay,O6 t _ ah ad];by_cases aO:d.2.1=[]
 ·have c:decide ((d.2.1:N)=[])=true:=aX aO;have bh:((0:Int)<=(dP bT d.1 t:Int)):=u;have ba:((dP bT d.1 t:Int)<=(t.length:Int)):=u;simp only[c,cL,ay,bh,ba,aX,bN,an,Int.le_refl,bE,ew];rw[GG d.1 t ah];congr 2;apply List.filter_congr;intro p _;unfold ch;simp[aO,bT]
 ·have bu:=h.resolve_left aO;have ab:=Bu (key:=bT) bu t ah;have c:decide ((d.2.1:N)=[])=false:=bm aO;have bh:((0:Int)<=(dP bT d.1 t:Int)):=u;have ba:((dP bT d.1 t:Int)<=(dP bT d.2.1 t:Int)):=u;have c3:((dP bT d.2.1 t:Int)<=(t.length:Int)):=u;simp only[c,cU,an,bh,ba,c3,aX,bN,bE];rw[ak4 bu t ah];congr 2;apply List.filter_congr;intro p _;unfold ch;simp[aO,bT]
section
variable {α:Type} {key:α->N}
theorem Gh {x:α}: ∀{l:List α},(∀b∈l,Op.bytesLess (key b) (key x)=true)->hY key x l=l++[x]
 |[],_=>rfl
 |a::l,h=>by unfold hY;rw[if_neg (by rw[j3 (h a gI)];simp),Gh (λb L=>h b (gU _ L))];rfl
theorem OF {x a:α} (h:Op.bytesLess (key x) (key a)=true): ∀l:List α,hY key x (l++[a])=hY key x l++[a]
 |[]=>by simp[hY,h]
 |b::l=>by
  have aR:=OF h l;simp only[List.cons_append,hY];by_cases L:Op.bytesLess (key x) (key b)=true
  ·rw[if_pos L,if_pos L];rfl
  ·rw[if_neg L,if_neg L,aR];rfl
theorem Pb {k:N} {a:α} (l:List α):iw key k (l++[a])=iw key k l++(if key a=k then [] else [a]):=by unfold iw;rw[List.filter_append];congr 1;by_cases h:key a=k<;>simp[h]
end
theorem abw (t:aj) (p:ck) (ah:cO bT t) (ad:t.length<10^12):wl (t,p,())=some (hY bT p (iw bT p.1 t),()):=by
 obtain ⟨r,q,G⟩:=dG (b:=vO) (λi (d:Bool×aj)=>(t,d.1,(i:Int),p,d.2,())) t.length
  (λi d=>d.2.length<=i+1/\(d.1=false->d.2=t.take i/\ ∀b∈t.take i,Op.bytesLess b.1 p.1=true)/\(d.1=true->d.2=hY bT p (iw bT p.1 (t.take i))/\ ∃b∈t.take i,Op.bytesLess b.1 p.1=false))
  (λr=> ∃I o,r=.inl (I,p,o,())/\o.length<=t.length+1/\(bif I then o else o++[p])=hY bT p (iw bT p.1 t)) u
  (λi E d pe=>by
   left;obtain ⟨I,o⟩:=d;obtain ⟨W,aM,RQ⟩:=pe;have W:o.length<=i+1:=W;have bh:((i:Int)<(t.length:Int)):=u;have ba:((0:Int)<=(i:Int)):=u;have bC:t.getD i (([]:N),(([]:N),((0:Int),())))=t[i]:=b5 E;have w:=e6 i u;have room: ∀(o:aj) (s:ck),o.length<=i+2->(o.length+([s]:aj).length)*40<=am:=λo s h=>by rw[ey];simp;omega
   have jE:t.take (i+1)=t.take i++[t[i]]:=eK E;have avj: ∀b∈t.take i,Op.bytesLess b.1 (t[i]).1=true:=by intro b L;obtain ⟨j,ak,rfl⟩:=List.getElem_of_mem L;rw[List.getElem_take];rw[ev]at ak;exact List.pairwise_iff_getElem.1 ah j i u E u
   have IJ: ∀(I:Bool) (o:aj),o.length<=i+2->I1 (t,I,(i:Int),p,o,())=some (.inl (t,I,((i+1:Nat):Int),p,(if (t[i]).1=p.1 then o else o++[t[i]]),())):=by
    intro I o h;unfold I1;by_cases he:(t[i]).1=p.1
    ·simp only[bh,ba,aX,an,bN,bE,bC,w,he,cL,ay,if_pos]
    ·simp only[bh,ba,aX,an,bN,bE,bC,w,bm he,cU,room o _ h,if_neg he]
   cases I with
   |false=>
    obtain ⟨rfl,gd⟩:=aM rfl;have hw:iw bT p.1 (t.take i)=t.take i:=by apply Gu;rw[ha,List.any_eq_false];intro b L;have:=nj (gd b L);simpa using this
    have Q5: ∀c,c=(Op.bytesLess p.1 (t[i]).1||decide (p.1=(t[i]).1))->vO (t,false,(i:Int),p,t.take i,())=i5 (t,false,(i:Int),c,p,t.take i,()):=by intro c aw;unfold vO;simp only[bh,ba,aX,an,bN,bE,bC,cU,aw]
    have hlen:(t.take i).length<=i:=by rw[ev];omega
    by_cases bu:Op.bytesLess p.1 (t[i]).1=true
    ·have cw: ¬(t[i]).1=p.1:=λe=>nj bu e.symm
     refine ⟨(true,t.take i++[p]++[t[i]]),⟨by simp;omega,(by intro h;cases h),λ_=>⟨?_,t[i],by rw[jE];exact List.mem_append_right _ (gv.2 rfl),j3 bu⟩⟩,?_⟩
     ·rw[jE,Pb,if_neg cw,hw,OF (key:=bT) bu,Gh (key:=bT) gd]
     ·rw[Q5 true (by rw[bu];rfl)];unfold i5;simp only[an,room (t.take i) p u,aX];rw[IJ true _ (by simp;omega),if_neg cw]
    ·have bu:Op.bytesLess p.1 (t[i]).1=false:=by simpa using bu
     by_cases he:(t[i]).1=p.1
     ·refine ⟨(true,t.take i++[p]),⟨by simp;omega,(by intro h;cases h),λ_=>⟨?_,t[i],by rw[jE];exact List.mem_append_right _ (gv.2 rfl),by rw[he];exact iC _⟩⟩,?_⟩
      ·rw[jE,Pb,if_pos he,List.append_nil,hw,Gh (key:=bT) gd]
      ·rw[Q5 true (by rw[bu,aX he.symm];rfl)];unfold i5;simp only[an,room (t.take i) p u,aX];rw[IJ true _ (by simp;omega),if_pos he]
     ·have p4:Op.bytesLess (t[i]).1 p.1=true:=by
       rcases ih p.1 (t[i]).1 with h |h |h
       ·rw[h]at bu;cases bu
       ·exact absurd h.symm he
       ·exact h
      refine ⟨(false,t.take i++[t[i]]),⟨by simp;omega,λ_=>⟨jE.symm,?_⟩,by intro h;cases h⟩,?_⟩
      ·rw[jE];intro b L;rcases dp.1 L with L |L
       ·exact gd b L
       ·obtain rfl:=gv.1 L;exact p4
      ·rw[Q5 false (by rw[bu,bm (λe=>he e.symm)];rfl)];unfold i5;simp only[ay];rw[IJ false _ u,if_neg he]
   |true=>
    obtain ⟨rfl,b,L,Ra⟩:=RQ rfl;have Ck:=avj b L;have afb:Op.bytesLess p.1 (t[i]).1=true:=by
     rcases ih p.1 b.1 with h |h |h
     ·exact gK h Ck
     ·rw[h];exact Ck
     ·rw[h]at Ra;cases Ra
    have cw: ¬(t[i]).1=p.1:=λe=>nj afb e.symm
    refine ⟨(true,hY bT p (iw bT p.1 (t.take i))++[t[i]]),⟨?_,(by intro h;cases h),λ_=>⟨?_,b,by rw[jE];exact List.mem_append_left _ L,Ra⟩⟩,?_⟩
    ·rw[eF,Gi];have hw:((iw bT p.1 (t.take i)).length)+1<=i+1:=by have:=W;rw[Gi]at this;exact this
     simp;omega
    ·rw[jE,Pb,if_neg cw,OF (key:=bT) afb]
    ·unfold vO i5;simp only[bh,aX,an,ay,cL];rw[IJ true _ u,if_neg cw])
  (λd pe=>by
   obtain ⟨I,o⟩:=d;obtain ⟨W,aM,RQ⟩:=pe;have W:o.length<=t.length+1:=W;have bh: ¬((t.length:Int)<(t.length:Int)):=u;refine ⟨.inl (I,p,o,()),⟨I,o,rfl,W,?_⟩,?_⟩
   ·cases I with
    |true=>
     have e:=(RQ rfl).1;rw[ew]at e;exact e
    |false=>
     obtain ⟨e,gd⟩:=aM rfl;rw[ew]at e gd;have e:o=t:=e;subst e;have hw:iw bT p.1 o=o:=by apply Gu;rw[ha,List.any_eq_false];intro b L;have:=nj (gd b L);simpa using this
     rw[hw,Gh (key:=bT) gd];rfl
   ·unfold vO;simp only[bh,bm,ay,not_false_eq_true]) (false,[]) ⟨aU,λ_=>aU,by intro h;cases h⟩
 obtain ⟨I,o,rfl,W,he⟩:=G;have q:b6 vO (t,false,(0:Int),p,([]:aj),())=some (.inl (I,p,o,())):=q;unfold wl XF;simp only[q];rw[<-he];cases I with
 |true=>simp
 |false=>
  have c3:(o.length+([p]:aj).length)*40<=am:=by rw[ey];simp;omega
  simp only[cU,an,c3,aX,ay]
theorem UN (l:au) (k:N) (ad:l.length<10^12):Gp (l,k,())=some (l.any (λd=>ch d k),()):=by
 obtain ⟨r,q,G⟩:=dG (b:=EB) (λi (d:H)=>(l,k,(i:Int),())) l.length (λi d=>(l.take i).any (λd=>ch d k)=false)
  (λr=>(r=.inl (true,())/\l.any (λd=>ch d k)=true)\/(r=.inr ()/\l.any (λd=>ch d k)=false)) u
  (λi E d ah=>by
   have bh:((i:Int)<(l.length:Int)):=u;have ba:((0:Int)<=(i:Int)):=u;have bC:l.getD i (([]:N),(([]:N),()))=l[i]:=b5 E;have w:=e6 i u;unfold EB;simp only[bh,ba,aX,an,bN,bE,bC,w,Pv];cases h:ch l[i] k
   ·left;refine ⟨(),?_,aU⟩;rw[eK E,List.any_append,ah];simp[h]
   ·right;refine ⟨.inl (true,()),.inl ⟨rfl,?_⟩,aU⟩;rw[List.any_eq_true];exact ⟨l[i],dI E,h⟩)
  (λd ah=>by have bh: ¬((l.length:Int)<(l.length:Int)):=u;rw[ew]at ah;refine ⟨.inr (),.inr ⟨rfl,ah⟩,?_⟩;unfold EB;simp only[bh,bm,ay,not_false_eq_true]) () aU
 have q:b6 EB (l,k,(0:Int),())=some r:=q;unfold Gp aaZ;rw[q];rcases G with ⟨rfl,he⟩|⟨rfl,he⟩
 ·rw[he]
 ·rw[he]
theorem NZ (t:aj) (l:au) (aW:t.length<10^12) (ad:l.length<10^12):vY (t,l,())=some (t.filter (λp=> !l.any (λd=>ch d p.1)),()):=by
 obtain ⟨r,q,G⟩:=dG (b:=Dn) (λi (o:aj)=>(t,l,(i:Int),o,())) t.length (λi o=>o=(t.take i).filter (λp=> !l.any (λd=>ch d p.1)))
  (λr=>r=.inl (t.filter (λp=> !l.any (λd=>ch d p.1)),())) u
  (λi E o W=>by
   left;have bh:((i:Int)<(t.length:Int)):=u;have ba:((0:Int)<=(i:Int)):=u;have bC:t.getD i (([]:N),(([]:N),((0:Int),())))=t[i]:=b5 E;have w:=e6 i u;have hlen:o.length<=i:=by rw[W];have q:=h0 (λp:ck=> !l.any (λd=>ch d p.1)) (t.take i);rw[ev]at q;omega
   have room:(o.length+([t[i]]:aj).length)*40<=am:=by rw[ey];simp;omega
   unfold Dn;simp only[bh,ba,aX,an,bN,bE,bC,w,UN l _ ad,room];rw[eK E,List.filter_append,<-W];cases h:l.any (λd=>ch d (t[i]).1)
   ·exact ⟨_,rfl,by simp[h]⟩
   ·exact ⟨_,rfl,by simp[h]⟩)
  (λo W=>by have bh: ¬((t.length:Int)<(t.length:Int)):=u;rw[ew]at W;subst W;refine ⟨_,rfl,?_⟩;unfold Dn;simp only[bh,bm,ay,not_false_eq_true]) [] aU
 subst G;have q:b6 Dn (t,l,(0:Int),([]:aj),())=_:=q;unfold vY Wp;simp only[q]
theorem asz (t:aj) (l:au) (aW:t.length<10^12) (ad:l.length<10^12):Kn (t,l,())=some (t.filter (λp=>l.any (λd=>ch d p.1)),()):=by
 obtain ⟨r,q,G⟩:=dG (b:=Du) (λi (o:aj)=>(t,l,(i:Int),o,())) t.length (λi o=>o=(t.take i).filter (λp=>l.any (λd=>ch d p.1)))
  (λr=>r=.inl (t.filter (λp=>l.any (λd=>ch d p.1)),())) u
  (λi E o W=>by
   left;have bh:((i:Int)<(t.length:Int)):=u;have ba:((0:Int)<=(i:Int)):=u;have bC:t.getD i (([]:N),(([]:N),((0:Int),())))=t[i]:=b5 E;have w:=e6 i u;have hlen:o.length<=i:=by rw[W];have q:=h0 (λp:ck=>l.any (λd=>ch d p.1)) (t.take i);rw[ev]at q;omega
   have room:(o.length+([t[i]]:aj).length)*40<=am:=by rw[ey];simp;omega
   unfold Du;simp only[bh,ba,aX,an,bN,bE,bC,w,UN l _ ad,room];rw[eK E,List.filter_append,<-W];cases h:l.any (λd=>ch d (t[i]).1)
   ·exact ⟨_,rfl,by simp[h]⟩
   ·exact ⟨_,rfl,by simp[h]⟩)
  (λo W=>by have bh: ¬((t.length:Int)<(t.length:Int)):=u;rw[ew]at W;subst W;refine ⟨_,rfl,?_⟩;unfold Du;simp only[bh,bm,ay,not_false_eq_true]) [] aU
 subst G;have q:b6 Du (t,l,(0:Int),([]:aj),())=_:=q;unfold Kn W6;simp only[q]
structure uh (p:N):Prop where
 pre:lX (p,())=some (dW p,())
 pre2:nY (p,())=some (dW p,())
 sh:p=[]\/p=p.dropLast++[47]
structure u4 (p:N) (S:aL):Prop where
 pre:lX (p,())=some (S,())
 has: ∀k,ch S k=b7 k p
 ok:n1 S
theorem uh.o {p:N} (h:uh p):u4 p (dW p):=⟨h.pre,A6 h.sh,U6 h.sh⟩
theorem acm {p:N} (h:p∈six):uh p:=⟨(mA p h).1,(mA p h).2.1,(mA p h).2.2⟩
theorem kb {k p:N}:b7 k p=true↔ ∃r,k=p++r:=by
 unfold b7;rw[bQ,dT,dT];constructor
 ·rintro ⟨_,h⟩;exact ⟨k.drop p.length,by conv=>lhs;rw[<-List.take_append_drop p.length k,h]⟩
 ·rintro ⟨r,rfl⟩;simp
theorem Ba (p r:N):b7 (p++r) p=true:=kb.2 ⟨r,rfl⟩
theorem ajB {k p s:N} (q:b7 k p=true) (G:b7 k s=true):b7 p s=true\/b7 s p=true:=by
 obtain ⟨r,rfl⟩:=kb.1 q;obtain ⟨d,e⟩:=kb.1 G;rcases List.append_eq_append_iff.1 e with ⟨a,ab,aE⟩|⟨a,ab,aE⟩
 ·right;exact kb.2 ⟨a,ab⟩
 ·left;exact kb.2 ⟨a,ab⟩
theorem nP (p a b:N):Op.bytesLess (p++a) (p++b)=Op.bytesLess a b:=by
 induction p with
 |nil=>rfl
 |cons x p aR=>simp[Op.bytesLess,aR]
def fZ (f t k:N):N:=t++k.drop f.length
theorem lp (f t r:N):fZ f t (f++r)=t++r:=by simp[fZ]
theorem asR (k f t:N) (h:t.length+k.length<10^12):N0 (k,f,t,())=some (bif b7 k f then (fZ f t k,true,()) else ([],false,())):=by
 unfold N0;simp only[Oz];cases L:b7 k f
 ·simp
 ·have hle:f.length<=k.length:=by obtain ⟨r,rfl⟩:=kb.1 L;simp
  have bh:((0:Int)<=(f.length:Int)):=u;have ba:((f.length:Int)<=(k.length:Int)):=u;have c3:t.length+(List.drop f.length k).length<=am:=by rw[ey,List.length_drop];omega
  simp only[cL,ay,an,bh,ba,Int.le_refl,aX,bN,bE,ew,c3];rfl
theorem OI (k f t:N) (h:t.length+k.length<10^12):wz (k,f,t,())=some (bif b7 k f then (fZ f t k,true,()) else ([],false,())):=by
 have aT:sw (k,f,())=some (b7 k f,()):=by have:=Oz k f;unfold v8 at this;unfold sw;exact this
 unfold wz Jk So;simp only[aT];cases L:b7 k f
 ·simp
 ·have hle:f.length<=k.length:=by obtain ⟨r,rfl⟩:=kb.1 L;simp
  have bh:((0:Int)<=(f.length:Int)):=u;have ba:((f.length:Int)<=(k.length:Int)):=u;have c3:t.length+(List.drop f.length k).length<=am:=by rw[ey,List.length_drop];omega
  simp only[cL,ay,an,bh,ba,Int.le_refl,aX,bN,bE,ew,c3];rfl
def kF (acc:aj) (p:ck):aj:=hY bT p (iw bT p.1 acc)
def ke (base l:aj):aj:=l.foldl kF base
def hW (f t:N) (p:ck):ck:=(fZ f t p.1,p.2.1,p.2.2.1,())
theorem aqO (base l:aj) (p:ck):ke base (l++[p])=kF (ke base l) p:=by simp[ke]
theorem acP (acc:aj) (p:ck):(kF acc p).length<=acc.length+1:=by unfold kF;have:=ale (key:=bT) (k:=p.1) acc;rw[Gi];omega
theorem FE: ∀(l base:aj),(ke base l).length<=base.length+l.length
 |[],base=>by simp[ke]
 |p::l,base=>by have q:=FE l (kF base p);have G:=acP base p;show (ke (kF base p) l).length<=_;simp;omega
theorem Ao: ∀(l base:aj),cO bT base->cO bT (ke base l)
 |[],base,h=>h
 |p::l,base,h=>Ao l (kF base p) (cO.ins h.wo (adu _ _))
def II (m:bH):Prop:=m.1=4\/m.1=5
def jI (m:bH) (t:aj):aj:=
 bif decide (m.1=4) then (t.filter λx=> !b7 x.1 m.2.2.2.2.2.1).filter λx=> !b7 x.1 m.2.2.2.2.1 else t.filter λx=> !b7 x.1 m.2.2.2.2.2.1
def hK (m:bH) (t:aj):aj:=t.filter λx=>b7 x.1 m.2.2.2.2.1
theorem Vd (t:aj) (p:N) (aT:uh p) (ad:t.length<10^12):vY (t,[dW p],())=some (t.filter (λx=> !b7 x.1 p),()):=by rw[NZ t _ ad aU];congr 2;apply List.filter_congr;intro x al;simp only[List.any_cons,List.any_nil,Bool.or_false,A6 aT.sh]
theorem akK (t:aj) (p:N) (aT:uh p) (ad:t.length<10^12):Kn (t,[dW p],())=some (t.filter (λx=>b7 x.1 p),()):=by rw[asz t _ ad aU];congr 2;apply List.filter_congr;intro x al;simp only[List.any_cons,List.any_nil,Bool.or_false,A6 aT.sh]
theorem aas (m:bH) (base src:aj) (L:cO bT base) (Cj:base.length<10^11) (oF:src.length<10^11) (lk: ∀p∈src,b7 p.1 m.2.2.2.2.1=true/\m.2.2.2.2.2.1.length+p.1.length<10^12):
  L3 ((0:Int),m,base,src,())=some (.inl (ke base (src.map (hW m.2.2.2.2.1 m.2.2.2.2.2.1)),())):=by
 obtain ⟨r,q,G⟩:=dG (b:=JV) (λi (o:aj)=>((i:Int),m,o,src,())) src.length (λi o=>o=ke base ((src.take i).map (hW m.2.2.2.2.1 m.2.2.2.2.2.1)))
  (λr=>r=.inl (ke base (src.map (hW m.2.2.2.2.1 m.2.2.2.2.2.1)),())) u
  (λi E o W=>by
   left;have bh:((i:Int)<(src.length:Int)):=u;have ba:((0:Int)<=(i:Int)):=u;have bC:src.getD i (([]:N),(([]:N),((0:Int),())))=src[i]:=b5 E;have w:=e6 i u;obtain ⟨M,V⟩:=lk _ (dI E);have hlen:=FE ((src.take i).map (hW m.2.2.2.2.1 m.2.2.2.2.2.1)) base;rw[List.length_map,ev]at hlen;have RL:cO bT o:=by rw[W];exact Ao _ _ L
   have oC:o.length<10^12:=by rw[W];omega
   have hm:=asR (src[i]).1 m.2.2.2.2.1 m.2.2.2.2.2.1 V;rw[M,an]at hm;have e5:=abw o (hW m.2.2.2.2.1 m.2.2.2.2.2.1 src[i]) RL oC;have e5:wl (o,(fZ m.2.2.2.2.1 m.2.2.2.2.2.1 (src[i]).1,(src[i]).2.1,(src[i]).2.2.1,()),())=some (kF o (hW m.2.2.2.2.1 m.2.2.2.2.2.1 src[i]),()):=e5;refine ⟨_,rfl,?_⟩;rw[eK E,List.map_append,List.map_singleton,aqO,<-W];unfold JV;simp only[bh,ba,aX,an,bN,bE,bC,w,hm,e5])
  (λo W=>by have bh: ¬((src.length:Int)<(src.length:Int)):=u;rw[ew]at W;subst W;refine ⟨_,rfl,?_⟩;unfold JV;simp only[bh,bm,ay,not_false_eq_true]) base (by simp[ke])
 subst G;exact q
theorem ase (t:aj) (m:bH) (hm:II m) (aM:uh m.2.2.2.2.1) (aW:uh m.2.2.2.2.2.1) (ah:cO bT t) (ad:t.length<10^11) (af: ∀p∈t,m.2.2.2.2.2.1.length+p.1.length<10^12):
  tz (t,m,())=some (ke (jI m t) ((hK m t).map (hW m.2.2.2.2.1 m.2.2.2.2.2.1)),()):=by
 have dm:decide (m.1=1)=false:=bm (by rcases hm with h |h<;>rw[h]<;>decide);have ec:decide (m.1=2)=false:=bm (by rcases hm with h |h<;>rw[h]<;>decide);have n3:decide (m.1=3)=false:=bm (by rcases hm with h |h<;>rw[h]<;>decide);have n6:decide (m.1=6)=false:=bm (by rcases hm with h |h<;>rw[h]<;>decide);have dy:=h0 (λx:ck=> !b7 x.1 m.2.2.2.2.2.1) t;have de:=h0 (λx:ck=>b7 x.1 m.2.2.2.2.1) t;have nQ:=h0 (λx:ck=> !b7 x.1 m.2.2.2.2.1) (t.filter λx=> !b7 x.1 m.2.2.2.2.2.1);have lk: ∀p∈hK m t,b7 p.1 m.2.2.2.2.1=true/\m.2.2.2.2.2.1.length+p.1.length<10^12:=λp aT=>⟨(e8.1 aT).2,af p (e8.1 aT).1⟩
 have oF:(hK m t).length<10^11:=by unfold hK;omega
 unfold tz;simp only[dm,ec,n3,n6,ay,aM.pre2,aW.pre2,Vd t _ aW u,akK t _ aM u];cases aE:decide (m.1=4)
 ·have vj:jI m t=t.filter λx=> !b7 x.1 m.2.2.2.2.2.1:=by unfold jI;rw[aE];rfl
  have:=aas m (jI m t) (hK m t) (by rw[vj];exact List.Pairwise.filter _ ah) (by rw[vj];omega) oF lk;rw[vj]at this ⊢;unfold hK at this ⊢;simp only[ay,this]
 ·have vj:jI m t=(t.filter λx=> !b7 x.1 m.2.2.2.2.2.1).filter λx=> !b7 x.1 m.2.2.2.2.1:=by unfold jI;rw[aE];rfl
  have:=aas m (jI m t) (hK m t) (by rw[vj];exact List.Pairwise.filter _ (List.Pairwise.filter _ ah)) (by rw[vj];omega) oF lk;rw[vj]at this ⊢;unfold hK at this ⊢;simp only[an,Vd _ _ aM (show (t.filter λx=> !b7 x.1 m.2.2.2.2.2.1).length<10^12 by omega),this]
theorem asF {k:N} {p:ck} {l:aj} (q:p.1≠k) (G:ha (key:=bT) k l=false):ha (key:=bT) k (hY bT p l)=false:=by
 unfold ha at G ⊢;rw[List.any_eq_false]at G ⊢;intro b L;rcases AU.1 L with rfl |L
 ·simpa using q
 ·exact G b L
structure wM (m:bH):Prop where
 kind:II m
 from_:m.2.2.2.2.1∈fc
 to_:m.2.2.2.2.2.1∈fc
 ap1:b7 m.2.2.2.2.1 m.2.2.2.2.2.1=false
 ap2:b7 m.2.2.2.2.2.1 m.2.2.2.2.1=false
theorem wM.not_both {m:bH} (h:wM m) {k:N} (q:b7 k m.2.2.2.2.1=true):b7 k m.2.2.2.2.2.1=false:=by
 cases G:b7 k m.2.2.2.2.2.1
 ·rfl
 ·rcases ajB q G with ab |ab
  ·rw[h.ap1]at ab;cases ab
  ·rw[h.ap2]at ab;cases ab
theorem wM.not_both2 {m:bH} (h:wM m) {k:N} (q:b7 k m.2.2.2.2.2.1=true):b7 k m.2.2.2.2.1=false:=by
 cases G:b7 k m.2.2.2.2.1
 ·rfl
 ·rw[h.not_both G]at q;cases q
def qK (m:bH) (t:aj):aj:=ke (jI m t) ((hK m t).map (hW m.2.2.2.2.1 m.2.2.2.2.2.1))
theorem ar6 {m:bH} {t:aj} {x:ck} (h:x∈jI m t):x∈t/\b7 x.1 m.2.2.2.2.2.1=false:=by
 unfold jI at h;cases af:decide (m.1=4)
 ·rw[af]at h;have:=e8.1 h;exact ⟨this.1,by simpa using this.2⟩
 ·rw[af]at h;have:=e8.1 (e8.1 h).1;exact ⟨this.1,by simpa using this.2⟩
theorem ar7 {m:bH} {t:aj} (h:cO bT t):cO bT (jI m t):=by
 unfold jI;cases decide (m.1=4)
 ·exact List.Pairwise.filter _ h
 ·exact List.Pairwise.filter _ (List.Pairwise.filter _ h)
theorem ar5 (m:bH) (t:aj):(jI m t).length<=t.length:=by
 unfold jI;cases decide (m.1=4)
 ·exact h0 _ _
 ·exact Nat.le_trans (h0 _ _) (h0 _ _)
theorem uX {f t k:N}:b7 (fZ f t k) t=true:=kb.2 ⟨_,rfl⟩
theorem acq {m:bH} {t:aj}: ∀p∈(hK m t).map (hW m.2.2.2.2.1 m.2.2.2.2.2.1),ha (key:=bT) p.1 (jI m t)=false:=by intro p aT;obtain ⟨s,aN,rfl⟩:=List.mem_map.1 aT;unfold ha;rw[List.any_eq_false];intro b L;have q:=(ar6 L).2;intro e;have e:b.1=fZ m.2.2.2.2.1 m.2.2.2.2.2.1 s.1:=of_decide_eq_true e;rw[e,uX]at q;cases q
theorem Gw {m:bH} {t:aj} (ah:cO bT t):((hK m t).map (hW m.2.2.2.2.1 m.2.2.2.2.2.1)).Pairwise (λa b=>a.1≠b.1):=by rw[List.pairwise_map];have h:cO bT (hK m t):=List.Pairwise.filter _ ah;refine List.Pairwise.imp_of_mem (λ{a b} aV L gz=> ?_) h;obtain ⟨r,ar⟩:=kb.1 (e8.1 aV).2;obtain ⟨d,ah⟩:=kb.1 (e8.1 L).2;show fZ _ _ a.1≠fZ _ _ b.1;rw[ar,ah,lp,lp];intro e;have e:=List.append_cancel_left e;have gz:Op.bytesLess a.1 b.1=true:=gz;rw[ar,ah,e,iC]at gz;cases gz
theorem adm {m:bH} {t:aj} (ah:cO bT t):cO bT (qK m t):=Ao _ _ (ar7 ah)
theorem ajw (m:bH) (t:aj):(qK m t).length<=2*t.length:=by have q:=FE ((hK m t).map (hW m.2.2.2.2.1 m.2.2.2.2.2.1)) (jI m t);have G:=ar5 m t;have ab:(hK m t).length<=t.length:=h0 _ _;rw[List.length_map]at q;unfold qK;omega
theorem F1 (t:aj) (h:t.length<10^12):va (t,())=some (t,()):=by
 unfold va;have:(List.length ([]:aj)+t.length)*40<=am:=by rw[ey];simp;omega
 simp only[this,aX,an]
theorem a20 (t:aj) (p:ck) (ah:cO bT t) (ad:t.length<10^12):Gf (t,p,())=some (kF t p,()):=by
 have hle:=qF (key:=bT) p.1 t;unfold Gf kF;simp only[O6 t p.1 ah u,F1 t ad];cases bg:ha (key:=bT) p.1 t
 ·have au6:HX ((dP bT p.1 t:Int),t,[p],())=some ([p],hY bT p t,()):=by
   unfold HX Ah;have bh:((0:Int)<=(dP bT p.1 t:Int)):=u;have ba:((dP bT p.1 t:Int)<=(t.length:Int)):=u;have c3:([p]:aj).length=1:=rfl;have ga:t.length+1<10^18:=u;have p9:(t.length+1)*40<=am:=by rw[ey];omega
   simp only[bh,ba,c3,ga,p9,aX,bN,an,bE];rw[UO t ah bg]
  simp only[ay,au6];rw[Gu _ _ bg]
 ·have bu:dP bT p.1 t<t.length:=by
   rcases Nat.lt_or_ge (dP bT p.1 t) t.length with h |h
   ·exact h
   ·rw[O8 p.1 t u]at bg;cases bg
  have bh:((0:Int)<=(dP bT p.1 t:Int)):=u;have ba:((dP bT p.1 t:Int)<(t.length:Int)):=u;simp only[an,bh,ba,aX,bN,bE];rw[U9 t ah bg]
theorem akk (n:Nat) (h:n<10^12):H4 ((n:Int),())=some (([]:aj),()):=by
 unfold H4;have hZ:i64.wrap ((0:Int)-0)=0:=fm;have dn:i64.wrap ((n:Int)-0)=(n:Int):=by rw[cR u];omega
 have bh: ¬((n:Int)<0):=u;simp only[hZ,dn,bm bh,ay];by_cases aO:n=0
 ·subst aO;have: ¬(((0:Nat):Int)>0):=fm;simp only[bm this,ay]
 ·have ba:((n:Int)>0):=u;have c3:((0:Int)<(n:Int)):=u;have ga:((n:Int)*40<=(am:Int)):=by rw[ey];omega
  have c5:((0:Int)<=((List.replicate (Int.toNat (n:Int)) (([]:N),(([]:N),((0:Int),())))).length:Int)):=u;simp only[ba,c3,ga,c5,aX,bN,an,List.take_zero]
theorem abU (a b:aj) (h:a.length+b.length<10^12):HW ([a,b],())=some (a++b,()):=by
 have dn:i64.wrap ((0:Int)+(a.length:Int))=(a.length:Int):=by rw[cR u];omega
 have da:i64.wrap ((a.length:Int)+(b.length:Int))=((a.length+b.length:Nat):Int):=by rw[cR u];omega
 have gH:i64.wrap ((0:Int)+1)=1:=fm;have kj:i64.wrap ((1:Int)+1)=2:=fm;have dm: ¬((a.length:Int)<0):=u;have ec: ¬(((a.length+b.length:Nat):Int)<0):=u;have de:(([a,b]:List aj).length:Int)=2:=rfl;have g0:List.getD [a,b] (Int.toNat 0) ([]:aj)=a:=rfl;have g1:List.getD [a,b] (Int.toNat 1) ([]:aj)=b:=rfl;have adW:decide ((0:Int)<2)=true:=fm;have d12:decide ((1:Int)<2)=true:=fm;have d22:decide ((2:Int)<2)=false:=fm;have adU:decide ((0:Int)<=0)=true:=fm;have adV:decide ((0:Int)<=1)=true:=fm;have iI:qD ([a,b],(0:Int),[a,b],(2:Int),(0:Int),())=some (.inl ([a,b],(a.length:Int),[a,b],(2:Int),(1:Int),())):=by unfold qD;simp only[de,g0,adW,adU,an,ay,bN,dn,gH,bm dm]
 have s1:qD ([a,b],(a.length:Int),[a,b],(2:Int),(1:Int),())=some (.inl ([a,b],((a.length+b.length:Nat):Int),[a,b],(2:Int),(2:Int),())):=by unfold qD;simp only[de,g1,d12,adV,an,ay,bN,da,kj,bm ec]
 have s2:qD ([a,b],((a.length+b.length:Nat):Int),[a,b],(2:Int),(2:Int),())=some (.inr (.inl ([a,b],((a.length+b.length:Nat):Int),()))):=by unfold qD;simp only[d22,ay]
 have q:b6 qD ([a,b],(0:Int),[a,b],(2:Int),(0:Int),())=some (.inl ([a,b],((a.length+b.length:Nat):Int),())):=nU (n:=3) (by rw[kc];omega) (by simp only[fY,iI,s1,s2]);have ag:(([]:aj).length+a.length)*40<=am:=by rw[ey];simp;omega
 have aS:(([]++a:aj).length+b.length)*40<=am:=by rw[ey];simp;omega
 have ayi:qQ ([a,b],(2:Int),(0:Int),([]:aj),())=some (.inl ([a,b],(2:Int),(1:Int),[]++a,())):=by unfold qQ;simp only[de,g0,adW,adU,an,bN,gH,ag,aX]
 have jW:qQ ([a,b],(2:Int),(1:Int),[]++a,())=some (.inl ([a,b],(2:Int),(2:Int),[]++a++b,())):=by unfold qQ;simp only[de,g1,d12,adV,an,bN,kj,aS,aX]
 have pB:qQ ([a,b],(2:Int),(2:Int),[]++a++b,())=some (.inr (.inl ([]++a++b,()))):=by unfold qQ;simp only[d22,ay]
 have G:b6 qQ ([a,b],(2:Int),(0:Int),([]:aj),())=some (.inl ([]++a++b,())):=nU (n:=3) (by rw[kc];omega) (by simp only[fY,ayi,jW,pB]);unfold HW i7 i8;simp only[de,q,akk _ h,G,List.nil_append]
section
variable {α:Type} {key:α->N}
theorem ak7 {aQ E:N} (h:Op.bytesLess aQ E=true) (l:List α) (ah:cO key l):l.take (dP key aQ l)++l.drop (dP key E l)=l.filter λa=> !(!Op.bytesLess (key a) aQ&&Op.bytesLess (key a) E):=by
 have e:l=l.take (dP key E l)++l.drop (dP key E l):=(List.take_append_drop _ _).symm;have hle:=Bu h l ah
 conv=>rhs;rw[e]
 rw[List.filter_append];have M:(l.drop (dP key E l)).filter (λa=> !(!Op.bytesLess (key a) aQ&&Op.bytesLess (key a) E))=l.drop (dP key E l):=by
  rw[List.filter_eq_self];intro a aV;rw[GG E l ah]at aV;have:=(e8.1 aV).2;have:Op.bytesLess (key a) E=false:=by simpa using this
  rw[this];simp
 have V:(l.take (dP key E l)).filter (λa=> !(!Op.bytesLess (key a) aQ&&Op.bytesLess (key a) E))=l.take (dP key aQ l):=by
  rw[Bf E l ah,List.filter_filter,Bf aQ l ah];apply List.filter_congr;intro a _;cases q:Op.bytesLess (key a) aQ
  ·cases Op.bytesLess (key a) E<;>rfl
  ·rw[gK q h];rfl
 rw[M,V]
end
theorem OX (t:aj) (d:aL) (h:n1 d) (ah:cO bT t) (ad:t.length<10^12):tO (t,d,())=some (t.filter (λp=> !ch d p.1),()):=by
 have q:=qF (key:=bT) d.1 t;have G:=qF (key:=bT) d.2.1 t;unfold tO Ed;simp only[acG d h,ay,O6 t _ ah (show t.length<10^13 by omega)];have bh:((0:Int)<=(dP bT d.1 t:Int)):=u;have ba:((dP bT d.1 t:Int)<=(t.length:Int)):=u;by_cases aO:d.2.1=[]
 ·have c:decide ((d.2.1:N)=[])=true:=aX aO;have c3:((0:Int)<=(t.length:Int)):=u;have ao:List.drop t.length t=[]:=List.drop_length;simp only[c,cL,ay,bh,ba,c3,aX,bN,an,Int.le_refl,bE,ew,List.drop_zero,ao];rw[abU _ _ (by simp;omega)];simp only[List.append_nil];rw[Bf d.1 t ah];congr 2;apply List.filter_congr;intro p _;unfold ch;simp[aO,bT]
 ·have bu:=h.resolve_left aO;have c:decide ((d.2.1:N)=[])=false:=bm aO;have c3:((0:Int)<=(dP bT d.2.1 t:Int)):=u;have ga:((dP bT d.2.1 t:Int)<=(t.length:Int)):=u;simp only[c,cU,an,bh,ba,c3,ga,aX,bN,Int.le_refl,bE,ew,List.drop_zero];rw[abU _ _ (by have:=Bu (key:=bT) bu t ah;rw[ev,List.length_drop];omega),ak7 bu t ah];dsimp only;congr 2;apply List.filter_congr;intro p _;unfold ch;simp[aO,bT]
end D
