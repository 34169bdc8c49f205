import Derived.Test.YtmmmpanpbphkdaaGreatDoorXC
import Derived.Test.YtmmmpanpbphkdaaGreatDoorD
import Derived.KernelRfl
import Derived.Sort.AssemblyPlain
set_option linter.unusedVariables false
set_option linter.unusedSimpArgs false
set_option maxRecDepth 100000
open Go Go.X
open Go.IntKind (i64)
namespace D
theorem aW {p:Prop} [Decidable p] (h:p):decide p=true:=decide_eq_true h
theorem bh {p:Prop} [Decidable p] (h: ¬p):decide p=false:=decide_eq_false h
theorem cQ {x:Int} (h: -9223372036854775808<=x/\x<9223372036854775808):i64.wrap x=x:=akS h.1 h.2
theorem dZ (i:Nat):bG ((0:Int)<=(i:Int)):=aW u
theorem e7 (i:Nat) (h:i<2^62):i64.wrap ((i:Int)+1)=((i+1:Nat):Int):=by rw[cQ u];omega
theorem e5 {α:Type} {l:List α} {i:Nat} (h:i<l.length):bG (((i:Nat):Int)<((l.length):Int)):=aW u
theorem fE {α:Type} (l:List α):(decide (((l.length:Nat):Int)<((l.length):Int)))=false:=bh u
theorem b5 {α:Type} {l:List α} {i:Nat} {I:α} (h:i<l.length):l.getD i I=l[i]:=by simp[List.getD,h]
theorem ez:bC=140737488355328:=rfl
def pa {α σ ρ:Type} (step:σ->α->σ⊕ρ) (fin:σ->ρ):List α->σ->ρ
 |[],d=>fin d
 |a::l,d=>match step d a with
  | .inl t=>pa step fin l t
  | .inr r=>r
theorem kS:jl=10^24:=rfl
theorem akp {S ρ σ α:Type} {b:S->Option (S⊕ρ)} (mk:Nat->σ->S) (step:σ->α->σ⊕ρ) (fin:σ->ρ) (xs:List α) (Inv:Nat->σ->Prop) (hlen:xs.length<10^18)
  (q: ∀i (E:i<xs.length) d,Inv i d->(∃t,step d xs[i]=.inl t/\Inv (i+1) t/\b (mk i d)=some (.inl (mk (i+1) t)))\/(∃r,step d xs[i]=.inr r/\b (mk i d)=some (.inr r)))
  (G: ∀d,Inv xs.length d->b (mk xs.length d)=some (.inr (fin d))) (d:σ) (af:Inv 0 d):b8 b (mk 0 d)=some (pa step fin xs d):=by
 have key: ∀(k i:Nat) (d:σ),i+k=xs.length->Inv i d->gi b (k+1) (mk i d)=some (pa step fin (xs.drop i) d):=by
  intro k
  induction k with
  |zero=>
   intro i d E a8;have E:i=xs.length:=u;subst E;simp only[gi,G d a8,List.drop_length,pa]
  |succ k aO=>
   intro i d E a8;have e3:i<xs.length:=u;rw[l2 e3,pa];rcases q i e3 d a8 with ⟨t,M,V,aY⟩|⟨r,M,V⟩
   ·rw[M];simp only[gi,aY];exact aO (i+1) t u V
   ·rw[M];simp only[gi,V]
 exact oQ (n:=xs.length+1) (by rw[kS];omega) (key xs.length 0 d u af)
theorem dG {S ρ σ:Type} {b:S->Option (S⊕ρ)} (mk:Nat->σ->S) (a7:Nat) (Inv:Nat->σ->Prop) (bx:ρ->Prop) (hlen:a7<10^18)
  (q: ∀i,i<a7-> ∀d,Inv i d->(∃t,Inv (i+1) t/\b (mk i d)=some (.inl (mk (i+1) t)))\/(∃r,bx r/\b (mk i d)=some (.inr r)))
  (G: ∀d,Inv a7 d-> ∃r,bx r/\b (mk a7 d)=some (.inr r)) (d:σ) (af:Inv 0 d): ∃r,b8 b (mk 0 d)=some r/\bx r:=by
 have key: ∀(k i:Nat) (d:σ),i+k=a7->Inv i d-> ∃r,gi b (k+1) (mk i d)=some r/\bx r:=by
  intro k
  induction k with
  |zero=>
   intro i d E a8;have E:i=a7:=u;subst E;obtain ⟨r,s,e⟩:=G d a8;exact ⟨r,by simp only[gi,e],s⟩
  |succ k aO=>
   intro i d E a8;rcases q i u d a8 with ⟨t,V,aY⟩|⟨r,M,V⟩
   ·obtain ⟨r,e,s⟩:=aO (i+1) t u V;exact ⟨r,by simp only[gi,aY];exact e,s⟩
   ·exact ⟨r,by simp only[gi,V],M⟩
 obtain ⟨r,e,s⟩:=key a7 0 d u af;exact ⟨r,oQ (n:=a7+1) (by rw[kS];omega) e,s⟩
theorem eH {α:Type} {l:List α} {i:Nat} (h:i<l.length):l.take (i+1)=l.take i++[l[i]]:=by rw[List.take_add_one,hx h];rfl
theorem iD: ∀a,Op.bytesLess a a=false
 |[]=>rfl
 |a::x=>by simp[Op.bytesLess,iD x]
theorem gN: ∀{a b c},Op.bytesLess a b=true->Op.bytesLess b c=true->Op.bytesLess a c=true
 |[],[],_,h,_=>by simp[Op.bytesLess]at h
 |_::_,[],_,h,_=>by simp[Op.bytesLess]at h
 |_,_::_,[],_,h=>by simp[Op.bytesLess]at h
 |[],_::_,_::_,_,_=>rfl
 |a::x,b::y,c::z,h,g=>by
  simp only[Op.bytesLess,Bool.or_eq_true,dS,bQ,beq_iff_eq]at h g ⊢;rcases h with h |⟨rfl,h⟩
  ·rcases g with g |⟨rfl,g⟩
   ·exact .inl (UInt8.lt_trans h g)
   ·exact .inl h
  ·rcases g with g |⟨rfl,g⟩
   ·exact .inl g
   ·exact .inr ⟨rfl,gN h g⟩
theorem h0: ∀a b,Op.bytesLess a b=true\/a=b\/Op.bytesLess b a=true
 |[],[]=>.inr (.inl rfl)
 |[],_::_=>.inl rfl
 |_::_,[]=>.inr (.inr rfl)
 |a::x,b::y=>by
  simp only[Op.bytesLess,Bool.or_eq_true,dS,bQ,beq_iff_eq,List.cons.injEq];rcases UInt8.lt_or_lt_of_ne (a:=a) (b:=b)|>λh=>(Decidable.em (a=b)).elim (λe=>Or.inl e) (λe=>Or.inr (h e)) with h |h |h
  ·subst h;rcases h0 x y with h |h |h
   ·exact .inl (.inr ⟨rfl,h⟩)
   ·exact .inr (.inl ⟨rfl,h⟩)
   ·exact .inr (.inr (.inr ⟨rfl,h⟩))
  ·exact .inl (.inl h)
  ·exact .inr (.inr (.inl h))
theorem j6 {a b} (h:Op.bytesLess a b=true):Op.bytesLess b a=false:=by
 cases L:Op.bytesLess b a
 ·rfl
 ·have:=gN h L;rw[iD]at this;cases this
theorem nj {a b} (h:Op.bytesLess a b=true):a≠b:=by rintro rfl;rw[iD]at h;cases h
theorem acw {S ρ:Type} {b:S->Option (S⊕ρ)} (μ:S->Nat) (Inv:S->Prop) (bx:ρ->Prop)
  (h: ∀d,Inv d->(∃t,b d=some (.inl t)/\Inv t/\μ t<μ d)\/(∃r,b d=some (.inr r)/\bx r)) (d:S) (af:Inv d) (hm:μ d<10^20): ∃r,b8 b d=some r/\bx r:=by
 have key: ∀n d,μ d<n->Inv d-> ∃r,gi b n d=some r/\bx r:=by
  intro n
  induction n with
  |zero=>intro d h;omega
  |succ n aO=>
   intro d aN E;rcases h d E with ⟨t,e,it,lt⟩|⟨r,e,s⟩
   ·obtain ⟨r,V,s⟩:=aO t u it;exact ⟨r,by simp only[gi,e,V],s⟩
   ·exact ⟨r,by simp only[gi,e],s⟩
 obtain ⟨r,e,s⟩:=key (μ d+1) d u af;exact ⟨r,oQ (n:=μ d+1) (by rw[kS];omega) e,s⟩
section
variable {α:Type} (key:α->N)
def cP (l:List α):Prop:=l.Pairwise λa b=>Op.bytesLess (key a) (key b)=true
def dR (k:N):List α->Nat
 |[]=>0
 |a::l=>if Op.bytesLess (key a) k=true then dR k l+1 else 0
def hY (x:α):List α->List α
 |[]=>[x]
 |a::l=>if Op.bytesLess (key x) (key a)=true then x::a::l else a::hY x l
def iy (k:N) (l:List α):List α:=l.filter λa=> !decide (key a=k)
variable {key}
theorem cP.tail {a:α} {l:List α} (h:cP key (a::l)):cP key l:=(List.pairwise_cons.1 h).2
theorem cP.head {a:α} {l:List α} (h:cP key (a::l)): ∀b∈l,Op.bytesLess (key a) (key b)=true:=(List.pairwise_cons.1 h).1
theorem qK (k:N): ∀l:List α,dR key k l<=l.length
 |[]=>ca _
 |a::l=>by
  unfold dR;split
  ·have:=qK k l;simp;omega
  ·simp
theorem P8 (k:N): ∀(l:List α) (i:Nat) (h:i<l.length),i<dR key k l->Op.bytesLess (key l[i]) k=true
 |[],i,h,_=>by simp at h
 |a::l,i,h,E=>by
  unfold dR at E;split at E
  ·rename_i aV;cases i with
   |zero=>exact aV
   |succ i=>exact P8 k l i (by simpa using h) u
  ·omega
theorem P7 (k:N): ∀(l:List α),cP key l-> ∀(i:Nat) (h:i<l.length),dR key k l<=i->Op.bytesLess (key l[i]) k=false
 |[],_,i,h,_=>by simp at h
 |a::l,af,i,h,E=>by
  unfold dR at E;split at E
  ·rename_i aV;cases i with
   |zero=>omega
   |succ i=>exact P7 k l af.tail i (by simpa using h) u
  ·rename_i aV;have aV:Op.bytesLess (key a) k=false:=by simpa using aV
   cases i with
   |zero=>exact aV
   |succ i=>
    have ad:i<l.length:=by simpa using h
    have q:=af.head l[i] (dJ ad);cases L:Op.bytesLess (key (a::l)[i+1]) k
    ·rfl
    ·have:=gN q L;rw[aV]at this;cases this
theorem abX (k:N) (l:List α) (af:cP key l) (i:Nat) (E:i<=l.length) (q: ∀(m:Nat) (h:m<l.length),m<i->Op.bytesLess (key l[m]) k=true) (G: ∀(m:Nat) (h:m<l.length),i<=m->Op.bytesLess (key l[m]) k=false):i=dR key k l:=by
 have ad:=qK (key:=key) k l;rcases Nat.lt_trichotomy i (dR key k l) with h |h |h
 ·have a:=G i u (ca _);have b:=P8 (key:=key) k l i u h;rw[a]at b;cases b
 ·exact h
 ·have a:=q (dR key k l) u h;have b:=P7 k l af (dR key k l) u (ca _);rw[a]at b;cases b
def hd (k:N) (l:List α):Bool:=l.any λa=>decide (key a=k)
theorem adO (k:N): ∀(l:List α),cP key l-> ∀(h:dR key k l<l.length),hd (key:=key) k l=decide (key l[dR key k l]=k)
 |[],_,h=>by simp at h
 |a::l,af,h=>by
  unfold dR at h ⊢;split
  ·rename_i aV;rw[if_pos aV]at h;have ct:key a≠k:=nj aV;have:=adO k l af.tail (by simpa using h);simp only[hd,List.any_cons,decide_eq_false ct,Bool.false_or];exact this
  ·rename_i aV;simp only[hd,List.any_cons,List.getElem_cons_zero];by_cases ag:key a=k
   ·simp[ag]
   ·have:(l.any λa=>decide (key a=k))=false:=by rw[List.any_eq_false];intro b L;have q:=af.head b L;simp only[dS];intro auZ;rw[auZ]at q;exact aV q
    rw[this];simp[ag]
theorem Pm (k:N): ∀(l:List α),dR key k l=l.length->hd (key:=key) k l=false
 |[],_=>rfl
 |a::l,h=>by
  unfold dR at h;split at h
  ·rename_i aV;have ct:key a≠k:=nj aV;have:=Pm k l (by simpa using h);simp only[hd,List.any_cons,decide_eq_false ct,Bool.false_or];exact this
  ·simp at h
theorem GZ (k:N) (l:List α) (h:hd (key:=key) k l=false):iy key k l=l:=by unfold iy;rw[List.filter_eq_self];intro a aV;unfold hd at h;rw[List.any_eq_false]at h;simpa using h a aV
theorem Vh {x:α}: ∀(l:List α),cP key l->hd (key:=key) (key x) l=false->l.take (dR key (key x) l)++[x]++l.drop (dR key (key x) l)=hY key x l
 |[],_,_=>rfl
 |a::l,af,aN=>by
  unfold dR hY;simp only[hd,List.any_cons,Bool.or_eq_false_iff,decide_eq_false_iff_not]at aN;have ct:key a≠key x:=aN.1;rcases h0 (key a) (key x) with h |h |h
  ·rw[if_pos h,if_neg (by rw[j6 h];simp)];have:=Vh l af.tail aN.2;simp only[List.take_succ_cons,List.drop_succ_cons,List.cons_append];rw[this]
  ·exact absurd h ct
  ·rw[if_pos h,if_neg (by rw[j6 h];simp)];simp
theorem aln {k:N} {l:List α} (h: ∀b∈l,Op.bytesLess k (key b)=true):iy key k l=l:=by unfold iy;rw[List.filter_eq_self];intro a aV;have:=nj (h a aV);simp only[eS,decide_eq_false_iff_not];exact λe=>this e.symm
theorem akB {x:α} {l:List α} (h: ∀b∈l,Op.bytesLess (key x) (key b)=true):hY key x l=x::l:=by
 cases l with
 |nil=>rfl
 |cons a l=>unfold hY;rw[if_pos (h a aU)]
theorem Vd {x:α}: ∀(l:List α),cP key l->hd (key:=key) (key x) l=true->l.set (dR key (key x) l) x=hY key x (iy key (key x) l)
 |[],_,aN=>by simp[hd]at aN
 |a::l,af,aN=>by
  unfold dR;rcases h0 (key a) (key x) with h |h |h
  ·have ct:key a≠key x:=nj h;simp only[hd,List.any_cons,decide_eq_false ct,Bool.false_or]at aN;have:=Vd l af.tail aN;rw[if_pos h,List.set_cons_succ,this];have e:iy key (key x) (a::l)=a::iy key (key x) l:=by simp[iy,ct]
   rw[e]
   conv=>rhs;unfold hY
   rw[if_neg (by rw[j6 h];simp)]
  ·have bw: ∀b∈l,Op.bytesLess (key x) (key b)=true:=λb L=>by rw[<-h];exact af.head b L
   rw[if_neg (by rw[h,iD];simp),List.set_cons_zero];have e:iy key (key x) (a::l)=iy key (key x) l:=by simp[iy,h]
   rw[e,aln bw,akB bw]
  ·exfalso;have ct:key a≠key x:=λe=>nj h e.symm
   simp only[hd,List.any_cons,decide_eq_false ct,Bool.false_or,List.any_eq_true,dS]at aN;obtain ⟨b,L,e⟩:=aN;have q:=gN h (af.head b L);rw[e,iD]at q;cases q
theorem Bc {x b:α}: ∀{l:List α},b∈hY key x l↔b=x\/b∈l
 |[]=>by simp[hY]
 |a::l=>by
  unfold hY;split
  ·simp
  ·simp only[fe,Bc (l:=l)];constructor
   ·rintro (h |h |h)
    ·exact .inr (.inl h)
    ·exact .inl h
    ·exact .inr (.inr h)
   ·rintro (h |h |h)
    ·exact .inr (.inl h)
    ·exact .inl h
    ·exact .inr (.inr h)
theorem GP {x:α}: ∀(l:List α),(hY key x l).length=l.length+1
 |[]=>rfl
 |a::l=>by
  unfold hY;split
  ·rfl
  ·simp[GP l]
theorem cP.ins {x:α}: ∀{l:List α},cP key l->hd (key:=key) (key x) l=false->cP key (hY key x l)
 |[],_,_=>by simp[hY,cP]
 |a::l,af,aN=>by
  simp only[hd,List.any_cons,Bool.or_eq_false_iff,decide_eq_false_iff_not]at aN;unfold hY;split
  ·rename_i h;refine List.pairwise_cons.2 ⟨λb L=> ?_,af⟩;rcases fe.1 L with rfl |L
   ·exact h
   ·exact gN h (af.head b L)
  ·rename_i h;have G:Op.bytesLess (key a) (key x)=true:=by
    rcases h0 (key a) (key x) with W |W |W
    ·exact W
    ·exact absurd W aN.1
    ·exact absurd W h
   refine List.pairwise_cons.2 ⟨λb L=> ?_,cP.ins af.tail aN.2⟩;rcases Bc.1 L with rfl |L
   ·exact G
   ·exact af.head b L
theorem cP.wo {k:N} {l:List α} (h:cP key l):cP key (iy key k l):=List.Pairwise.filter _ h
theorem adP (k:N) (l:List α):hd (key:=key) k (iy key k l)=false:=by unfold hd iy;rw[List.any_eq_false];intro a aV;have:=(e8.1 aV).2;simpa using this
theorem alo {k:N} (l:List α):(iy key k l).length<=l.length:=hZ _ _
end
open Go
theorem aj7:Ny ()=some (true,()):=aD
open Go
theorem asP {p:cb} {i:Nat} (h:i<p.length):oP ((p,()),(i:Int),())=some (p[i].1,()):=by have q:bG (((i:Nat):Int)>=0):=aW u;have G:bG (((i:Nat):Int)<(p.length:Int)):=aW u;have W:=dZ i;simp only[oP,q,G,W,aj,bN,bI,b5 h]
theorem abP {p:cb} {i:Nat} (h:i<p.length) (hu:p[i].1=true) (ad:p[i].2.1=false):d9 ((p,()),(i:Int),())=some (p[i].2.2.2.1,0,()):=by have G:bG (((i:Nat):Int)<(p.length:Int)):=aW u;have W:=dZ i;simp only[d9,asP h,hu,ad,G,W,aj,av,cK,bN,bI,b5 h]
theorem Ov {p:cb} {i:Nat} (h:i<p.length):zP ((p,()),(i:Int),())=some (p[i].1,()):=by have q:bG (((i:Nat):Int)>=0):=aW u;have G:bG (((i:Nat):Int)<(p.length:Int)):=aW u;have W:=dZ i;simp only[zP,q,G,W,aj,bN,bI,b5 h]
theorem asR {p:cb} {i:Nat} (h:i<p.length):KL ((i:Int),p,())=some (p[i].1,p,()):=by have q:bG (((i:Nat):Int)>=0):=aW u;have G:bG (((i:Nat):Int)<(p.length:Int)):=aW u;have W:=dZ i;simp only[KL,q,G,W,aj,bN,bI,b5 h]
theorem ajJ {p:cb} {i:Nat} (h:i<p.length) (hu:p[i].1=true) (ad:p[i].2.1=false):xf ((p,()),(i:Int),())=some (p[i].2.2.2.1,0,()):=by have G:bG (((i:Nat):Int)<(p.length:Int)):=aW u;have W:=dZ i;simp only[xf,Ov h,hu,ad,G,W,aj,av,cK,bN,bI,b5 h]
def mk (Q:cS) (r:Nat->Int):cb:=Q.mapIdx λi n=>(true,false,r i,n,())
theorem l0 (Q:cS) (r:Nat->Int):(mk Q r).length=Q.length:=by simp[mk]
theorem nk {Q:cS} {r:Nat->Int} {i:Nat} (h:i<(mk Q r).length):(mk Q r)[i]=(true,false,r i,Q[i]'(by rw[<-l0 Q r];exact h),()):=by simp[mk]
theorem Bn {Q:cS} {r:Nat->Int} {i:Nat} (h:i<Q.length) (I:iZ):List.getD (mk Q r) i I=(true,false,r i,Q[i],()):=by rw[b5 (by rw[l0];exact h),nk]
theorem Vn {Q:cS} {r:Nat->Int} {i:Nat} (h:i<Q.length) (v:Int):(mk Q r).set i (true,false,v,Q[i],())=mk Q (λj=>if j=i then v else r j):=by
 apply List.ext_getElem
 ·simp[mk]
 ·intro j q G;rw[nk,List.getElem_set];split
  ·rename_i e;subst e;simp
  ·rename_i e;rw[nk];simp[Ne.symm e]
theorem Bd {Q:cS} {r gX:Nat->Int} (h: ∀i,i<Q.length->r i=gX i):mk Q r=mk Q gX:=by
 apply List.ext_getElem
 ·simp[mk]
 ·intro j q G;rw[nk,nk,h j (by rw[<-l0 Q r];exact q)]
theorem akG (Q:cS) (n:cz) (r:Nat->Int):mk Q r++[(true,false,r Q.length,n,())]=mk (Q++[n]) r:=by simp[mk,List.mapIdx_append]
theorem ar9 {Q:cS} {r:Nat->Int} {i:Nat} (h:i<Q.length):d9 ((mk Q r,()),(i:Int),())=some (Q[i],0,()):=by
 have cy:i<(mk Q r).length:=by rw[l0];exact h
 rw[abP cy (by rw[nk]) (by rw[nk]),nk]
theorem Ol {Q:cS} {r:Nat->Int} {i:Nat} (h:i<Q.length):xf ((mk Q r,()),(i:Int),())=some (Q[i],0,()):=by
 have cy:i<(mk Q r).length:=by rw[l0];exact h
 rw[ajJ cy (by rw[nk]) (by rw[nk]),nk]
theorem ace {p:cb} (h:p.length<=10^5):Ey ((p,()),())=some (p,()):=by have q:bG ((List.length ([]:List (iZ))+p.length)*136<=bC):=aW (by rw[ez];simp;omega);simp only[Ey,q,aj,List.nil_append]
def bJ (ks:dB):cC:=ks.map λ(k:Nat)=>(k:Int)
theorem fP (ks:dB):(bJ ks).length=ks.length:=by simp[bJ]
theorem lf {ks:dB} {i:Nat} (h:i<ks.length):List.getD (bJ ks) i 0=((ks[i]:Nat):Int):=by rw[b5 (by rw[fP];exact h)];simp[bJ]
theorem alH {Q:cS} {r:Nat->Int} {n:cz} {ks:dB} (ag:n.2.2.1=bJ ks) (ar: ∀k∈ks,k<Q.length) (ad:ks.length<=1000):
  NO (0,(mk Q r,()),n,[],0,0,())=some (.inr ((mk Q r,()),n,[],0,0,())):=by
 obtain ⟨z,q,G⟩:=dG (b:=Ev) (λi (_:H)=>((i:Int),(mk Q r,()),n,[],0,0,())) ks.length (λ_ _=>True) (λz=>z=.inr ((mk Q r,()),n,[],0,0,())) u
  (λi E _ _=>by
   left;refine ⟨(),trivial,?_⟩;have M:bG (((i:Nat):Int)<((n.2.2.1.length):Int)):=aW (by rw[ag,fP];omega);have V:=dZ i;have aY:=e7 i u;have dO:ks[i]<(mk Q r).length:=by rw[l0];exact ar _ (dJ E)
   have gr:n.2.2.1.getD i 0=((ks[i]:Nat):Int):=by rw[ag,lf E]
   simp only[Ev,M,V,aj,bN,bI,gr,Ov dO,nk,cK,av,aY])
  (λ_ _=>by have M:(decide (((ks.length:Nat):Int)<((n.2.2.1.length):Int)))=false:=bh (by rw[ag,fP];omega);exact ⟨_,rfl,by simp only[Ev,M,av]⟩) () trivial
 subst G;exact q
theorem alI {Q:cS} {r:Nat->Int} {n:cz} (ad:Q.length<=1000):
  NP (0,(mk Q r,()),n,[],0,0,())=some (.inl ((Q.length:Int),(mk Q r,()),n,[],0,0,())):=by
 obtain ⟨z,q,G⟩:=dG (b:=Ew) (λi (_:H)=>((i:Int),(mk Q r,()),n,[],0,0,())) Q.length (λ_ _=>True) (λz=>z=.inl ((Q.length:Int),(mk Q r,()),n,[],0,0,())) u
  (λi E _ _=>by left;refine ⟨(),trivial,?_⟩;have M:bG (((i:Nat):Int)<((List.length (mk Q r)):Int)):=aW (by rw[l0];omega);have V:=dZ i;have aY:=e7 i u;simp only[Ew,M,V,aj,bN,bI,Bn E,aY])
  (λ_ _=>by have M:(decide (((Q.length:Nat):Int)<((List.length (mk Q r)):Int)))=false:=bh (by rw[l0];omega);exact ⟨_,rfl,by simp only[Ew,M,av]⟩) () trivial
 subst G;exact q
theorem alJ {Q:cS} {n:cz} {ks:dB} {c:Int} (ag:n.2.2.1=bJ ks) (ar: ∀k∈ks,k<Q.length) (aN:ks.Nodup) (ad:ks.length<=1000):
  NQ (c,0,n,[],0,0,mk Q (λ_=>1),())=some (.inl (c,[],0,0,mk Q (λj=>if j∈ks then 2 else 1),())):=by
 obtain ⟨z,q,G⟩:=dG (b:=Ex) (λi (l:cb)=>(c,(i:Int),n,[],0,0,l,())) ks.length (λi l=>l=mk Q (λj=>if j∈ks.take i then 2 else 1)) (λz=>z=.inl (c,[],0,0,mk Q (λj=>if j∈ks then 2 else 1),())) u
  (λi E l ad=>by
   left;subst ad;refine ⟨_,rfl,?_⟩;have je:ks[i]<Q.length:=ar _ (dJ E);have M:bG (((i:Nat):Int)<((n.2.2.1.length):Int)):=aW (by rw[ag,fP];omega);have V:=dZ i;have aY:=e7 i u;have bp:bG ((0:Int)<=((ks[i]:Nat):Int)):=aW u;have cV: ∀r,(decide (((ks[i]:Nat):Int)<(List.length (mk Q r):Int)))=true:=λr=>aW (by rw[l0];omega)
   have mu:ks[i]∉ks.take i:=λhm=>by have G:=eH E;have dL:(ks.take (i+1)).Nodup:=aN.sublist (List.take_sublist _ _);rw[G,List.nodup_append]at dL;exact dL.2.2 _ hm _ aU rfl
   have gr:n.2.2.1.getD i 0=((ks[i]:Nat):Int):=by rw[ag,lf E]
   simp only[Ex,M,V,aj,bN,bI,gr,bp,cV,Bn je,aY,if_neg mu];have da:i64.wrap ((1:Int)+1)=2:=by rw[cQ u];omega
   have kH:mk Q (λj=>if j=ks[i] then 2 else if j∈ks.take i then 2 else 1)=mk Q (λj=>if j∈ks.take (i+1) then 2 else 1):=Bd λj _=>by
    have hm:j∈ks.take (i+1)↔(j∈ks.take i\/j=ks[i]):=by rw[eH E,dn,gl]
    by_cases al:j=ks[i]
    ·rw[if_pos al,if_pos (hm.2 (.inr al))]
    ·rw[if_neg al];by_cases G:j∈ks.take i
     ·rw[if_pos G,if_pos (hm.2 (.inl G))]
     ·rw[if_neg G,if_neg (λh=>(hm.1 h).elim G al)]
   rw[da,Vn je,kH])
  (λl ad=>by subst ad;have M:(decide (((ks.length:Nat):Int)<((n.2.2.1.length):Int)))=false:=bh (by rw[ag,fP];omega);exact ⟨_,rfl,by simp only[Ex,M,av,eu]⟩) (mk Q (λ_=>1)) (Bd λj _=>aU)
 subst G;exact q
theorem UZ {Q:cS} {n:cz} {ks:dB} (ag:n.2.2.1=bJ ks) (ar: ∀k∈ks,k<Q.length) (aN:ks.Nodup) (ad:ks.length<=1000) (iq:Q.length<=900):
  tX ((mk Q (λ_=>1),()),n,())=some (((mk (Q++[n]) (λj=>if j∈ks then 2 else 1),()),((Q.length:Int),(0,()))),()):=by
 have M:(decide (((Q.length:Nat):Int)>=4096))=false:=bh u;have hlen:(mk Q (λ_=>1)).length=Q.length:=l0 _ _;have V:bG (((Q.length:Nat):Int)=((List.length (mk Q (λ_=>1))):Int)):=aW (by rw[hlen]);have aY: ∀I:iZ,(decide ((List.length (mk Q (λ_=>1))+List.length ([I]:List (iZ)))*136<=bC))=true:=λI=>aW (by rw[hlen,ez];simp;omega)
 have bp:bG ((0:Int)<=((Q.length:Nat):Int)):=aW u;have cV: ∀I:iZ,(decide (((Q.length:Nat):Int)<(List.length (mk Q (λ_=>1)++[I]):Int)))=true:=λI=>aW (by simp[hlen];omega)
 have da: ∀I:iZ,List.set (mk Q (λ_=>1)++[I]) Q.length (true,false,1,n,())=mk (Q++[n]) (λ_=>1):=λI=>by rw[<-akG,<-hlen,List.set_append_right _ _ (ca _)];simp
 have G:=alJ (Q:=Q++[n]) (n:=n) (ks:=ks) (c:=(Q.length:Int)) ag (λk ag=>by have:=ar k ag;simp;omega) aN ad;simp only[tX,alH ag ar ad,alI (show Q.length<=1000 by omega),M,av,ace (show (mk Q (λ_=>1)).length<=10^5 by omega),V,aY,aj,NN,bp,cV,bN,bI,da,G]
theorem ala {Q:cS} {r:Nat->Int} {k:Nat} (ag:k<Q.length) (ar:r k=2):
  M3 ([(k:Int)],[],mk Q r,())=some (.inl ([],mk Q (λj=>if j=k then 1 else r j),())):=by
 obtain ⟨z,q,G⟩:=dG (b:=Ej) (λi (s:cC×cb)=>(s.1,[],s.2,())) 1 (λi s=>(i=0/\s=([(k:Int)],mk Q r))\/(i=1/\s=([],mk Q (λj=>if j=k then 1 else r j))))
  (λz=>z=.inl ([],mk Q (λj=>if j=k then 1 else r j),())) u
  (λi E s aP=>by
   left;obtain ⟨rfl,rfl⟩:=aP.resolve_right u;refine ⟨_,.inr ⟨rfl,rfl⟩,?_⟩;have eA:k<(mk Q r).length:=by rw[l0];exact ag
   have M:=dZ k;have V: ∀gX,(decide ((k:Int)<(List.length (mk Q gX):Int)))=true:=λgX=>aW (by rw[l0];omega)
   have aY:i64.wrap ((2:Int)-1)=1:=by rw[cQ u];omega
   have bp:List.drop (Int.toNat (1:Int)) (List.take (Int.toNat (List.length [(k:Int)]:Int)) [(k:Int)])=[]:=rfl;have cV:List.getD [(k:Int)] 0 0=(k:Int):=rfl;have da:bG ((((List.length [(k:Int)]):Int):Int)>(0:Int)):=rfl;have gr:bG (((0:Int):Int)<(List.length [(k:Int)]:Int)):=rfl;have kH:(decide (((1:Int):Int)<=(List.length [(k:Int)]:Int))&&decide (((List.length [(k:Int)]:Int):Int)<=(List.length [(k:Int)]:Int)))=true:=rfl;have nD:(decide ((1:Int)=(0:Int)))=false:=rfl;simp only[Ej,da,gr,kH,aj,bp,cV,asR eA,nk,cK,av,M,V,bN,bI,Bn ag,ar,aY,Vn ag,if_true,nD];rfl)
  (λs aP=>by obtain ⟨-,rfl⟩:=aP.resolve_left u;have da:(decide ((((List.length ([]:cC)):Int):Int)>(0:Int)))=false:=rfl;exact ⟨_,rfl,by simp only[Ej,da,av]⟩) ([(k:Int)],mk Q r) (.inl ⟨rfl,rfl⟩)
 subst G;exact q
theorem a20 {Q:cS} {r:Nat->Int} {k:Nat} (ag:k<Q.length) (ar:r k=2) (ad:Q.length<=1000):
  zO ((mk Q r,()),(k:Int),())=some ((mk Q (λj=>if j=k then 1 else r j),()),0,()):=by
 have eA:k<(mk Q r).length:=by rw[l0];exact ag
 simp only[zO,Ov eA,nk,cK,av,ace (show (mk Q r).length<=10^5 by rw[l0];omega),ala ag ar]
def cl (d:aK) (k:N):Bool:= !(Op.bytesLess k d.1)&&(decide (d.2.1=[])||Op.bytesLess k d.2.1)
theorem U6 (d:aK) (k:N):A1 (d,k,())=some (cl d k,()):=by
 simp only[A1,cl];cases q:Op.bytesLess k d.1
 ·cases G:decide (d.2.1=[])
  ·simp[G]
  ·simp[G]
 ·simp
def inS (d:aK) (t:ak):ak:=t.filter λp=>cl d p.1
theorem sj (d:aK) (t:ak):(inS d t).length<=t.length:=hZ _ _
theorem aj3 (t:ak) (d:aK) (ad:t.length<=10^12):F5 (t,d,())=some (inS d t,()):=by
 obtain ⟨z,q,G⟩:=dG (b:=DS) (λi (out:ak)=>(t,(i:Int),d,out,())) t.length (λi out=>out=inS d (t.take i)) (λz=>z=.inl (inS d t,())) u
  (λi E out ab=>by
   left;subst ab;refine ⟨_,rfl,?_⟩;have M:=e5 (i:=i) (l:=t) u;have V:=dZ i;have aY:=e7 i u;have bp: ∀p:cp,(decide ((List.length (inS d (t.take i))+List.length ([p]:List (cp)))*40<=bC))=true:=λp=>aW (by have:=sj d (t.take i);rw[ez];simp at this ⊢;omega)
   have cV:inS d (t.take (i+1))=inS d (t.take i)++(bif cl d t[i].1 then [t[i]] else []):=by rw[eH E];unfold inS;rw[List.filter_append];cases h:cl d t[i].1<;>simp[h]
   rw[cV];simp only[DS,M,V,aj,bN,bI,b5 E,U6];cases h:cl d t[i].1
   ·simp only[av,aY,List.append_nil]
   ·simp only[aj,aY,bp])
  (λout ab=>by subst ab;have M:=fE t;exact ⟨_,rfl,by simp only[DS,M,av,eu]⟩) [] rfl
 subst G;have dt:Mf (t,0,d,[],())=some (.inl (inS d t,())):=q;simp only[F5,dt]
def uU (p:cp) (t:ak):ak:=t.filter λx=> !decide (x.1=p.1)
def ins (p:cp):ak->ak
 |[]=>[p]
 |x::t=>bif Op.bytesLess x.1 p.1 then x::ins p t else p::uU p (x::t)
abbrev Vx:=(Bool×cp×ak×H)⊕H
def w9 (p:cp) (d:Bool×ak) (x:cp):(Bool×ak)⊕Vx:=
 let i:=d.1|| !(Op.bytesLess x.1 p.1)
 let o:=bif !d.1&& !(Op.bytesLess x.1 p.1) then d.2++[p] else d.2
 .inl (i,bif !decide (x.1=p.1) then o++[x] else o)
def w8 (p:cp) (d:Bool×ak):Vx:=.inl (d.1,p,d.2,())
theorem acA (p:cp): ∀(t out:ak),pa (w9 p) (w8 p) t (true,out)=.inl (true,p,out++uU p t,())
 |[],out=>by simp[pa,uU,w8]
 |x::t,out=>by simp only[pa,w9,Bool.true_or,cK,Bool.false_and,av];rw[acA p t];by_cases h:x.1=p.1<;>simp[uU,h]
theorem abR (p:cp): ∀(t out:ak),∃b o,pa (w9 p) (w8 p) t (false,out)=.inl (b,p,o,())/\(bif b then o else o++[p])=out++ins p t
 |[],out=>⟨false,out,rfl,rfl⟩
 |x::t,out=>by
  simp only[pa,w9,Bool.false_or,cH,Bool.true_and];cases h:Op.bytesLess x.1 p.1
  ·simp only[cH,aj];rw[acA];refine ⟨_,_,rfl,?_⟩;have e:ins p (x::t)=p::uU p (x::t):=by simp only[ins,h,av]
   rw[e];by_cases G:x.1=p.1<;>simp[uU,G]
  ·have G:x.1≠p.1:=nj h;simp only[cK,av,G,decide_false,cH,aj];obtain ⟨b,o,M,V⟩:=abR p t (out++[x]);refine ⟨b,o,M,?_⟩;rw[V];simp[ins,h]
theorem ati (p:cp) (t:ak):(uU p t).length<=t.length:=hZ _ _
theorem PM (p:cp): ∀t,(ins p t).length<=t.length+1
 |[]=>by simp[ins]
 |x::t=>by have q:=PM p t;have G:=ati p (x::t);cases h:Op.bytesLess x.1 p.1<;>simp[ins,h]at G ⊢ <;>omega
theorem aj2 (t:ak) (p:cp) (ad:t.length<10^6):GG (t,p,())=some (ins p t,()):=by
 have RH:NL (t,false,(0:Int),p,([]:ak),())=some (pa (w9 p) (w8 p) t (false,[])):=by
  have:=akp (b:=Et) (λev (d:Bool×ak)=>(t,d.1,(ev:Int),p,d.2,())) (w9 p) (w8 p) t (λev d=>d.2.length<=ev+(if d.1 then 1 else 0)) u (λev h d af=>by
    obtain ⟨i,out⟩:=d;have ab:out.length<=ev+1:=by simp only at af;split at af<;>omega
    left;refine ⟨_,rfl,?_,?_⟩
    ·cases i<;>cases L:Op.bytesLess t[ev].1 p.1<;>by_cases ag:t[ev].1=p.1<;>simp[L,ag]at af ⊢ <;>omega
    ·simp-implicitDefEqProofs (disch:=omega) only[Et,T4,T5,aW,bh,cQ,b5,aj,av,bN,bI,ez,ia,List.length_nil,et,Int.natCast_add,Int.cast_ofNat_Int];cases i<;>cases L:Op.bytesLess t[ev].1 p.1<;>by_cases ag:t[ev].1=p.1<;>simp-implicitDefEqProofs (disch:=omega) [L,ag,aW]) (λd af=>by
    unfold Et;simp-implicitDefEqProofs (disch:=omega) only[aW,bh,aj,av,w8]) (false,[]) aU
  exact this
 obtain ⟨b,o,M,V⟩:=abR p t [];unfold GG;simp only[RH,M];simp only[List.nil_append]at V;have hlen:=PM p t;cases b
 ·simp only[av]at V;have:o.length+1<=t.length+1:=by rw[<-V]at hlen;simpa using hlen
  simp-implicitDefEqProofs (disch:=omega) only[cH,aj,aW,ez,ia,List.length_nil,V]
 ·simp only[aj]at V;simp only[cK,av,V]
def l3 (n:Int):N:=((xd (n,())).map (·.1)).getD []
def acT (n:Nat):Bool:=match xd ((n:Int),()) with
 |some (k,_)=>decide (k.length<=11)&&decide (1<=k.length)
 |none=>false
theorem atU: ∀n:Fin 256,acT n.val=true:=by decide+kernel
theorem OJ (n:Int) (bW:0<=n) (q:n<256):xd (n,())=some (l3 n,())/\(l3 n).length<=11/\1<=(l3 n).length:=by
 obtain ⟨m,rfl⟩:=Int.eq_ofNat_of_zero_le bW;have:=atU ⟨m,u⟩;unfold acT at this;unfold l3;simp only at this;cases h:xd ((m:Int),()) with
 |none=>simp[h]at this
 |some x=>
  obtain ⟨k,ae⟩:=x;simp[h]at this;simp;omega
def AB (n:Int):N:=List.getD [[],[118],[119,120],[120,121,122]] (n%4).toNat []
def oX (x:bi):cp:=(l3 x.1,AB x.2.1,x.2.2.1%4,())
def rN (x:bi):Prop:=(0<=x.1/\x.1<256)/\(0<=x.2.1/\x.2.1<256)/\(0<=x.2.2.1/\x.2.2.1<256)
theorem ajD (x:bi) (h:rN x):Gs (x,())=some (oX x,()):=by obtain ⟨a,b,c,ae⟩:=x;obtain ⟨q,G,W⟩:=h;simp only at q G W;obtain ⟨bf,a6,cq⟩:=OJ a q.1 q.2;have M:Int.tmod b 4=b%4:=Int.tmod_eq_emod_of_nonneg G.1;have V:Int.tmod c 4=c%4:=Int.tmod_eq_emod_of_nonneg W.1;unfold Gs;simp-implicitDefEqProofs (disch:=omega) only[bf,M,V,cQ,aW,bN,aj,ia,List.length_nil];rfl
def mS (l:l6):ak:=l.foldl (λt x=>ins (oX x) t) []
theorem A4 (l:l6):(mS l).length<=l.length:=by
 have key: ∀(l:l6) (t:ak),(l.foldl (λt x=>ins (oX x) t) t).length<=t.length+l.length:=by
  intro l
  induction l with
  |nil=>intro t;simp
  |cons x l aO=>
   intro t;have q:=aO (ins (oX x) t);have G:=PM (oX x) t;simp only[List.foldl_cons,ia];omega
 have:=key l [];simp only[List.length_nil,Nat.zero_add]at this;exact this
theorem atY (l:l6) (h: ∀x∈l,rN x) (ad:l.length<10^18):AM (l,())=some (mS (l.take 40),()):=by
 have RH:KJ (l,(0:Int),([]:ak),())=some (.inl (mS (l.take 40),())):=by
  obtain ⟨r,q,G⟩:=dG (b:=zp) (λev (t:ak)=>(l,(ev:Int),t,())) (min l.length 40) (λev t=>t=mS (l.take ev)) (λr=>r=.inl (mS (l.take 40),())) u (λev dT t aX=>by
    left;have auI:ev<l.length:=u;refine ⟨ins (oX l[ev]) t,?_,?_⟩
    ·show _=mS _;rw[List.take_add_one,hx auI,aX];simp only[mS,Option.toList_some,List.foldl_append,List.foldl_cons,List.foldl_nil]
    ·have hlen:t.length<=40:=by rw[aX];have:=A4 (l.take ev);simp only[eE]at this;omega
     have aT:=ajD l[ev] (h _ (dJ _));have aP:=aj2 t (oX l[ev]) u;simp-implicitDefEqProofs (disch:=omega) only[zp,Dy,aW,bh,cQ,b5,aj,av,bN,bI,aT,aP,Int.natCast_add,Int.cast_ofNat_Int]) (λt aX=>by
    refine ⟨.inl (t,()),?_,?_⟩
    ·simp only[Sum.inl.injEq,c0,and_true];rw[aX];congr 1;rcases Nat.le_total l.length 40 with h |h
     ·rw[Nat.min_eq_left h,ic h,eu]
     ·rw[Nat.min_eq_right h]
    ·rcases Nat.lt_or_ge (min l.length 40) l.length with h |h
     ·simp-implicitDefEqProofs (disch:=omega) only[zp,Dy,aW,bh,aj,av]
     ·simp-implicitDefEqProofs (disch:=omega) only[zp,Dy,aW,bh,aj,av]) [] (by simp[mS])
  have W:KJ (l,(0:Int),[],())=some r:=q;rw[W,G]
 unfold AM;simp only[RH]
def qB (k:N):Prop:=(tD (k,())).isSome=true
structure K0 (m:bE):Prop where
 kind:1<=m.1/\m.1<=6
 key:m.1=1\/m.1=2->qB m.2.1
 alike:m.1=4\/m.1=5->(tM (m.2.2.2.2.1,m.2.2.2.2.2.1,())).isSome=true
theorem asB {p:cp} (h:qB p.1): ∃c,zw (p,())=some c:=by
 obtain ⟨r,ar⟩:=Option.isSome_iff_exists.1 h;simp only[zw,ar];cases (!decide ((r.2.1:Int)=(0:Int)))
 ·cases decide ((r.1.2.1:Int)=(1:Int))
  ·cases decide ((r.1.2.1:Int)=(2:Int))
   ·cases decide ((r.1.2.1:Int)=(3:Int))<;>exact ⟨_,rfl⟩
   ·exact ⟨_,rfl⟩
  ·exact ⟨_,rfl⟩
 ·exact ⟨_,rfl⟩
theorem ajS (l:ak) (h: ∀p∈l,qB p.1) (ad:l.length<=10^6): ∃c,zI (l,())=some c:=by
 obtain ⟨z,q,G⟩:=dG (b:=tk) (λi (s:Int×Int)=>(l,(i:Int),0,0,s.1,s.2,())) l.length (λ_ _=>True) (λz=> ∃x,z=.inl x) u
  (λi E s _=>by left;obtain ⟨c,au⟩:=asB (h l[i] (dJ E));have M:=e5 (i:=i) (l:=l) u;have V:=dZ i;have aY:=e7 i u;exact ⟨(i64.wrap (s.1+c.1.1),i64.wrap (s.2+c.1.2.1)),trivial,by simp only[tk,M,V,aj,bN,bI,b5 E,au,aY]⟩)
  (λs _=>by have M:=fE l;exact ⟨_,⟨_,rfl⟩,by simp only[tk,M,av];rfl⟩) (0,0) trivial
 obtain ⟨x,rfl⟩:=G;have dt:Ke (l,0,0,0,0,0,())=some (.inl x):=q;exact ⟨_,by simp only[zI,dt];rfl⟩
theorem aci {k:N} (h:qB k): ∃c,tp (k,())=some c:=by obtain ⟨r,ar⟩:=Option.isSome_iff_exists.1 h;simp only[tp,ar];cases decide ((r.2.1:Int)=(0:Int))<;>exact ⟨_,rfl⟩
theorem asA (d:eV) {m:bE} (h:K0 m): ∃c,k9 (d,m,())=some c:=by
 simp only[k9,rG,tE];by_cases q:m.1=1
 ·obtain ⟨e,he⟩:=aci (h.key (.inl q));simp only[aW q,aj,he];cases e.1<;>exact ⟨_,rfl⟩
 ·by_cases G:m.1=2
  ·obtain ⟨e,he⟩:=aci (h.key (.inr G));simp only[bh q,av,aW G,aj,he];cases e.1<;>exact ⟨_,rfl⟩
  ·by_cases bD:m.1=6
   ·simp only[bh q,bh G,av,aW bD,aj];exact ⟨_,rfl⟩
   ·by_cases W:m.1=3
    ·simp only[bh q,bh G,bh bD,av,aW W,aj];exact ⟨_,rfl⟩
    ·obtain ⟨a,aV⟩:=Option.isSome_iff_exists.1 (h.alike (by have:=h.kind;omega));simp only[bh q,bh G,bh bD,bh W,av,aV];cases a.1
     ·exact ⟨_,rfl⟩
     ·cases decide ((m.1:Int)=(5:Int))<;>exact ⟨_,rfl⟩
theorem akb {n:cz} (bW:n.2.2.1=[]) (h: ∀p∈n.1,qB p.1) (ad:n.1.length<=10^6): ∃d,na (n,())=some d:=by
 obtain ⟨c,au⟩:=ajS n.1 h ad;have M:bG ((((n.2.2.1.length):Int):Int)=(0:Int)):=by rw[bW];rfl
 simp only[na,M,aj,au,F6];exact ⟨_,rfl⟩
theorem ajQ {n:cz} (bW:n.2.2.1≠[]) (af:n.2.2.2.1.length<=10^6) (h: ∀m∈n.2.2.2.2.1,K0 m) (ad:n.2.2.2.2.1.length<=10^6): ∃d,na (n,())=some d:=by
 have ch:(decide ((((n.2.2.1.length):Int):Int)=(0:Int)))=false:=bh (by have:=List.length_pos_iff.2 bW;omega)
 obtain ⟨z,q,x,rfl⟩:=dG (b:=ts) (λi (s:eV)=>((i:Int),n,0,0,0,0,s,())) n.2.2.2.1.length (λ_ _=>True) (λz=> ∃x:eV,z=.inl (n,0,0,0,0,x,())) u
  (λi E s _=>by left;have M:bG (((i:Nat):Int)<((n.2.2.2.1.length):Int)):=aW u;have V:=dZ i;have aY:=e7 i u;simp only[ts,M,V,aj,bN,bI,b5 E,aY,AN];exact ⟨_,trivial,rfl⟩)
  (λs _=>by have M:(decide (((n.2.2.2.1.length:Nat):Int)<((n.2.2.2.1.length):Int)))=false:=bh u;exact ⟨_,⟨s,rfl⟩,by simp only[ts,M,av]⟩) (((0:Int),((0:Int),())),(((0:Int),((0:Int),())),())) trivial
 have dt:FN (0,n,0,0,0,0,(((0:Int),((0:Int),())),(((0:Int),((0:Int),())),())),())=some (.inl (n,0,0,0,0,x,())):=q;obtain ⟨z,G,y,rfl⟩:=dG (b:=tt) (λi (s:eV)=>((i:Int),n,0,0,0,0,s,())) n.2.2.2.2.1.length (λ_ _=>True) (λz=> ∃x,z=.inl x) u
  (λi E s _=>by left;obtain ⟨c,au⟩:=asA s (h n.2.2.2.2.1[i] (dJ E));have M:bG (((i:Nat):Int)<((n.2.2.2.2.1.length):Int)):=aW u;have V:=dZ i;have aY:=e7 i u;exact ⟨c.1,trivial,by simp only[tt,M,V,aj,bN,bI,b5 E,au,aY]⟩)
  (λs _=>by have M:(decide (((n.2.2.2.2.1.length:Nat):Int)<((n.2.2.2.2.1.length):Int)))=false:=bh u;exact ⟨_,⟨_,rfl⟩,by simp only[tt,M,av];rfl⟩) x trivial
 have il:FO (0,n,0,0,0,0,x,())=some (.inl y):=G;exact ⟨_,by simp only[na,ch,av,dt,il];rfl⟩
def six:bo:=[[97,47],[98,47],[97,47,98,47],[99,47],[100,47],[]]
def mD (d:aK):Prop:=d.2.1=[]\/Op.bytesLess d.1 d.2.1=true
def bL (k p:N):Bool:=decide (p.length<=k.length)&&decide (k.take p.length=p)
theorem tT (k p:N):rF (k,p,())=some (bL k p,()):=by
 unfold rF bL;by_cases h:p.length<=k.length
 ·have bj:((k.length:Int)>=(p.length:Int)):=u;have ba:((0:Int)<=(p.length:Int)):=u;have c3:((p.length:Int)<=(k.length:Int)):=u;simp only[bj,ba,c3,aW,aj,bN,bI,List.drop_zero,h,Bool.true_and]
 ·have bj: ¬((k.length:Int)>=(p.length:Int)):=u;simp only[bj,bh h,bh,av,not_false_eq_true,Bool.false_and]
def dW (p:N):aK:=(p,(if p=[] then [] else p.dropLast++[48]),())
theorem ad1: ∀(s k:N),(!Op.bytesLess k (s++[47])&&Op.bytesLess k (s++[48]))=bL k (s++[47])
 |[],[]=>fc
 |[],x::k=>by
  show (!(decide (x<47)||(x==47&&Op.bytesLess k []))&&(decide (x<48)||(x==48&&Op.bytesLess k [])))=bL (x::k) [47];have e:Op.bytesLess k []=false:=by cases k<;>rfl
  rw[e];unfold bL;simp only[Bool.and_false,Bool.or_false,ia,List.length_nil,List.take_succ_cons,List.take_zero];have q:decide (0+1<=k.length+1)=true:=aW u;rw[q,Bool.true_and];have G: ∀x:UInt8,(!decide (x<47)&&decide (x<48))=decide (x=47):=by intro x;rw[Bool.eq_iff_iff];simp only[bQ,eS,decide_eq_false_iff_not,dS,UInt8.lt_iff_toNat_lt,<-UInt8.toNat_inj];show (¬x.toNat<47/\x.toNat<48)↔x.toNat=47;omega
  rw[G];congr 1;simp
 |I::s,[]=>by show (!Op.bytesLess [] (I::(s++[47]))&&_)=bL [] (I::(s++[47]));unfold bL;simp[Op.bytesLess]
 |I::s,x::k=>by
  have aO:=ad1 s k;show (!(decide (x<I)||(x==I&&Op.bytesLess k (s++[47])))&&(decide (x<I)||(x==I&&Op.bytesLess k (s++[48]))))=bL (x::k) (I::(s++[47]));have L:bL (x::k) (I::(s++[47]))=(decide (x=I)&&bL k (s++[47])):=by unfold bL;simp only[ia,List.take_succ_cons,List.cons.injEq,Nat.add_le_add_iff_right,Bool.decide_and];cases decide ((s++[47]).length<=k.length)<;>simp
  rw[L,<-aO];by_cases q:x=I
  ·subst q;simp
  ·have W:(x==I)=false:=by simpa using q
   simp only[W,Bool.false_and,Bool.or_false,bh q];cases decide (x<I)<;>rfl
theorem mC: ∀p∈six,kU (p,())=some (dW p,())/\nX (p,())=some (dW p,())/\(p=[]\/p=p.dropLast++[47]):=by have h:six.all (λp=>decide (kU (p,())=some (dW p,()))&&(decide (nX (p,())=some (dW p,()))&&(decide (p=[])||decide (p=p.dropLast++[47]))))=true:=aD;intro p aT;have G:=fD.1 h p aT;simp only[bQ,Bool.or_eq_true,dS]at G;exact G
theorem Bo {p:N} (h:p=[]\/p=p.dropLast++[47]) (k:N):cl (dW p) k=bL k p:=by
 unfold cl dW;by_cases aT:p=[]
 ·subst aT;cases k<;>simp[bL,Op.bytesLess]
 ·have h:=h.resolve_left aT;have:=ad1 p.dropLast k;rw[<-h]at this;rw[if_neg aT,<-this];have aN: ¬(p.dropLast++[48]=[]):=aU;simp only[bh aN,Bool.false_or]
theorem Va {p:N} (h:p=[]\/p=p.dropLast++[47]):mD (dW p):=by
 unfold mD dW;by_cases aT:p=[]
 ·left;simp[aT]
 ·right;have h:=h.resolve_left aT;simp only[if_neg aT];have: ∀s:N,Op.bytesLess (s++[47]) (s++[48])=true:=by
   intro s
   induction s with
   |nil=>decide
   |cons a s aO=>simp[Op.bytesLess,aO]
  conv=>lhs;arg 1;rw[h]
  exact this _
def jK:bo:=[[97,47],[98,47],[97,47,98,47],[99,47]].flatMap λp=>[[1],[2,0,0],[2,0,1],[2,0,2],[3,120]].map λd=>p++d
theorem acU (n:Int) (h:0<=n/\n<256): ∃k∈jK,xe (n,())=some (k,()):=by
 obtain ⟨k,rfl⟩:=Int.eq_ofNat_of_zero_le h.1;have ag:k<256:=u;have au:(List.range 256).all (λk=>match xe ((k:Int),()) with |some (p,())=>jK.contains p |none=>false)=true:=aD;have:=fD.1 au k (List.mem_range.2 ag);cases aT:xe ((k:Int),()) with
 |none=>rw[aT]at this;cases this
 |some r=>
  obtain ⟨p,ae⟩:=r;rw[aT]at this;exact ⟨p,by simpa using this,rfl⟩
theorem as3 (n:Int) (h:0<=n/\n<256): ∃v:N,v.length<=10/\wq (n,())=some (v,()):=by
 obtain ⟨k,rfl⟩:=Int.eq_ofNat_of_zero_le h.1;have ag:k<256:=u;have au:(List.range 256).all (λk=>match wq ((k:Int),()) with |some (p,())=>decide (p.length<=10)|none=>false)=true:=aD;have:=fD.1 au k (List.mem_range.2 ag);cases aT:wq ((k:Int),()) with
 |none=>rw[aT]at this;cases this
 |some r=>
  obtain ⟨p,ae⟩:=r;rw[aT]at this;exact ⟨p,by simpa using this,rfl⟩
def fb:bo:=[[97,47],[98,47],[97,47,98,47],[99,47],[100,47]]
theorem abM (n:Int) (h:0<=n/\n<256): ∃p∈fb,qo (n,())=some (p,()):=by
 obtain ⟨k,rfl⟩:=Int.eq_ofNat_of_zero_le h.1;have ag:k<256:=u;have au:(List.range 256).all (λk=>match qo ((k:Int),()) with |some (p,())=>fb.contains p |none=>false)=true:=aD;have:=fD.1 au k (List.mem_range.2 ag);cases aT:qo ((k:Int),()) with
 |none=>rw[aT]at this;cases this
 |some r=>
  obtain ⟨p,ae⟩:=r;rw[aT]at this;exact ⟨p,by simpa using this,rfl⟩
theorem lw: ∀p∈fb,p∈six:=by intro p aT;simp only[fb,six,fe,List.mem_nil_iff,or_false]at aT ⊢;rcases aT with h |h |h |h |h<;>simp[h]
def ot (a b:N):N:=bif bL a b||bL b a then (bif decide (a=[100,47]) then [99,47] else [100,47]) else b
theorem akQ: ∀a∈fb,∀b∈fb,ot a b∈fb/\bL a (ot a b)=false/\bL (ot a b) a=false:=by have h:fb.all (λa=>fb.all λb=>fb.contains (ot a b)&&(!bL a (ot a b)&& !bL (ot a b) a))=true:=aD;intro a aV b L;have:=fD.1 (fD.1 h a aV) b L;simpa using this
abbrev o0:Type:=(Int)×(Int)×(Int)×(Int)×(Int)×(Int)×H
def jy (a:Int) (k v f t:N) (d:aK) (n:Int):bE:=
 bif decide (a=0) then (1,k,v,([],[],()),[],[],n,())
 else bif decide (a=1) then (2,k,[],([],[],()),[],[],0,())
 else bif decide (a=2) then (3,[],[],d,[],[],0,())
 else bif decide (a=3) then (4,[],[],([],[],()),f,t,0,())
 else bif decide (a=4) then (5,[],[],([],[],()),f,t,0,())
 else (6,[],[],d,[],[],n,())
theorem alN (k f t v:N) (x:o0) (d:aK) (a8:wq (x.2.2.1,())=some (v,())):
  rz (k,f,t,x,(0:Int),[],[],[],[],[],[],(0:Int),d,())=some (.inl (jy (Int.tmod x.1 6) k v f t d (i64.wrap (Int.tmod x.2.2.2.2.2.1 8)))):=by
 unfold rz jy;simp only[a8];cases decide (Int.tmod x.1 6=0)<;>cases decide (Int.tmod x.1 6=1)<;>cases decide (Int.tmod x.1 6=2)<;>cases decide (Int.tmod x.1 6=3)<;>cases decide (Int.tmod x.1 6=4)<;>rfl
theorem alM (k f t v:N) (x:o0) (d:aK) (a8:wq (x.2.2.1,())=some (v,())) (aM:qo (x.2.1,())=some (f,())) (aX:qo (x.2.2.2.1,())=some (t,())):
  nC (k,x,(0:Int),[],[],[],[],[],[],(0:Int),d,())=some (.inl (jy (Int.tmod x.1 6) k v f (ot f t) d (i64.wrap (Int.tmod x.2.2.2.2.2.1 8)))):=by
 unfold nC sY ot;simp only[aM,aX,tT];cases bL f t<;>cases bL t f<;>cases decide (f=[100,47])<;>simp only[cK,cH,aj,av,Bool.or_true,Bool.or_false,Bool.true_or,Bool.false_or,alN k _ _ v x d a8]
structure ij (m:bE):Prop where
 kind:m.1=1\/m.1=2\/m.1=3\/m.1=4\/m.1=5\/m.1=6
 key:m.1=1\/m.1=2->m.2.1∈jK
 val:m.1=1->m.2.2.1.length<=10
 span:m.1=3\/m.1=6->mD m.2.2.2.1
 from_:m.1=4\/m.1=5->m.2.2.2.2.1∈fb
 to_:m.1=4\/m.1=5->m.2.2.2.2.2.1∈fb
 apart:m.1=4\/m.1=5->bL m.2.2.2.2.1 m.2.2.2.2.2.1=false/\bL m.2.2.2.2.2.1 m.2.2.2.2.1=false
theorem asN (a:Int) (k v f t:N) (d:aK) (n:Int) (ag:k∈jK) (a8:v.length<=10) (aM:f∈fb) (aX:t∈fb) (af:mD d) (q:bL f t=false) (G:bL t f=false):ij (jy a k v f t d n):=by
 unfold jy;cases decide (a=0) with
 |true=>exact ⟨aU,λ_=>ag,λ_=>a8,aU,aU,aU,aU⟩
 |false=>
  cases decide (a=1) with
  |true=>exact ⟨aU,λ_=>ag,aU,aU,aU,aU,aU⟩
  |false=>
   cases decide (a=2) with
   |true=>exact ⟨aU,aU,aU,λ_=>af,aU,aU,aU⟩
   |false=>
    cases decide (a=3) with
    |true=>exact ⟨aU,aU,aU,aU,λ_=>aM,λ_=>aX,λ_=>⟨q,G⟩⟩
    |false=>
     cases decide (a=4) with
     |true=>exact ⟨aU,aU,aU,aU,λ_=>aM,λ_=>aX,λ_=>⟨q,G⟩⟩
     |false=>exact ⟨aU,aU,aU,λ_=>af,aU,aU,aU⟩
def zs (x:o0):Prop:=(0<=x.1/\x.1<256)/\(0<=x.2.1/\x.2.1<256)/\(0<=x.2.2.1/\x.2.2.1<256)/\(0<=x.2.2.2.1/\x.2.2.2.1<256)
theorem Qc (k:N):Op.bytesLess k (k++[0])=true:=by
 induction k with
 |nil=>rfl
 |cons a k aO=>simp[Op.bytesLess,aO]
theorem atm: ∀k∈jK,qB k:=by have h:jK.all (λk=>(tD (k,())).isSome)=true:=aD;exact λk ag=>fD.1 h k ag
theorem arH: ∀a∈fb,∀b∈fb,(tM (a,b,())).isSome=true:=by have h:fb.all (λa=>fb.all λb=>(tM (a,b,())).isSome)=true:=aD;exact λa aV b L=>fD.1 (fD.1 h a aV) b L
theorem ij.mok {m:bE} (h:ij m):K0 m:=
 ⟨by have:=h.kind;omega,λag=>atm _ (h.key ag),λag=>arH _ (h.from_ ag) _ (h.to_ ag)⟩
theorem acW (a b:N): ∃r,qn (a,b,())=some (r,()):=by
 simp only[qn];cases (!decide (a=([]:N)))
 ·exact ⟨_,rfl⟩
 ·cases (!decide (b=([]:N)))<;>exact ⟨_,rfl⟩
theorem xc (d:aK): ∃r,lK (d,())=some (r,()):=by simp only[lK];cases (!decide (d.2.1=([]:N)))<;>exact ⟨_,rfl⟩
theorem ar8 (a b c I:N): ∃r,KI (a,b,c,I,())=some (r,()):=by obtain ⟨e,he⟩:=xc (c,I,());simp only[KI,he,Ou];cases e<;>exact ⟨_,rfl⟩
theorem acY (a b:aK): ∃r,AL (a,b,())=some (r,()):=by obtain ⟨l,ad⟩:=acW b.2.1 a.2.1;simp only[AL,ad];cases l<;>simp only[aj,av]<;>exact ar8 _ _ _ _
theorem OH (a b:aK): ∃r,mh (a,b,())=some (r,()):=by obtain ⟨e,he⟩:=xc b;obtain ⟨f,aM⟩:=xc a;obtain ⟨l,ad⟩:=acW a.2.1 b.2.1;simp only[mh,he,aM,ad];cases e<;>cases f<;>cases (Op.bytesLess a.1 b.1||decide ((a.1:N)=b.1))<;>exact ⟨_,rfl⟩
theorem ajF (d:aK) (ps:bo) (ad:ps.length<=10^5): ∃l,zH (d,ps,())=some (l,())/\l.length=ps.length+1:=by
 obtain ⟨z,q,s,rfl,aP⟩:=dG (b:=DR) (λi (s:N×aw)=>(ps,s.1,(i:Int),d,s.2,())) ps.length (λi s=>s.2.length=i) (λz=> ∃s:N×aw,z=.inl (s.1,d,s.2,())/\s.2.length=ps.length) u
  (λi E s aP=>by
   left;have M:=e5 (i:=i) (l:=ps) u;have V:=dZ i;have aY:=e7 i u;obtain ⟨r,ar⟩:=acY d (s.1,(ps[i],()));have cV: ∀x:aK,(decide ((s.2.length+List.length ([x]:List (aK)))*32<=bC))=true:=λx=>aW (by rw[aP,ez];simp;omega)
   exact ⟨(ps[i],s.2++[r]),by simp[aP],by simp only[DR,M,V,aj,bN,bI,b5 E,ar,cV,aY]⟩)
  (λs aP=>by have M:=fE ps;exact ⟨_,⟨s,rfl,aP⟩,by simp only[DR,M,av]⟩) (([]:N),([]:aw)) rfl
 have dt:Me (ps,[],0,d,[],())=some (.inl (s.1,d,s.2,())):=q;obtain ⟨r,ar⟩:=acY d (s.1,(([]:N),()));have cV: ∀x:aK,(decide ((s.2.length+List.length ([x]:List (aK)))*32<=bC))=true:=λx=>aW (by rw[aP,ez];simp;omega)
 exact ⟨s.2++[r],by simp only[zH,dt,ar,cV,aj],by simp[aP]⟩
theorem AT {p:N} (h:p∈fb): ∃r,nX (p,())=some (r,()):=⟨_,(mC p (lw p h)).2.1⟩
theorem adY {k:N} (h:k∈jK): ∃r,oO (k,())=some (r,()):=by
 have hlen:jK.all (λk=>decide (k.length<100))=true:=aD;have:=of_decide_eq_true (fD.1 hlen k h);have:k.length+([0]:N).length<=bC:=by rw[ez];simp;omega
 simp only[oO,this,aW,aj];exact ⟨_,rfl⟩
theorem ajI {m:bE} (h:ij m): ∃l,nP (m,())=some (l,())/\l.length<=2:=by
 simp only[nP,rA];by_cases aC:m.1=4
 ·obtain ⟨r,ar⟩:=AT (h.from_ (.inl aC));simp only[aW aC,aj,ar];exact ⟨_,rfl,aU⟩
 ·by_cases bd:m.1=5
  ·obtain ⟨r,ar⟩:=AT (h.from_ (.inr bd));simp only[bh aC,aW bd,aj,av,ar];exact ⟨_,rfl,aU⟩
  ·simp only[bh aC,bh bd,av];cases decide (m.1=6)<;>exact ⟨_,rfl,aU⟩
theorem as5 {m:bE} (h:ij m): ∃l,lJ (m,())=some (l,())/\l.length<=2:=by
 simp only[lJ,ou];by_cases q:m.1=1
 ·obtain ⟨r,ar⟩:=adY (h.key (.inl q));simp only[aW q,aj,ar];exact ⟨_,rfl,aU⟩
 ·by_cases G:m.1=2
  ·obtain ⟨r,ar⟩:=adY (h.key (.inr G));simp only[bh q,aW G,aj,av,ar];exact ⟨_,rfl,aU⟩
  ·by_cases aC:m.1=4
   ·obtain ⟨r,ar⟩:=AT (h.from_ (.inl aC));obtain ⟨t,aX⟩:=AT (h.to_ (.inl aC));simp only[bh q,bh G,aW aC,aj,av,ar,aX];exact ⟨_,rfl,aU⟩
   ·by_cases bd:m.1=5
    ·obtain ⟨t,aX⟩:=AT (h.to_ (.inr bd));simp only[bh q,bh G,bh aC,aW bd,aj,av,aX];exact ⟨_,rfl,aU⟩
    ·simp only[bh q,bh G,bh aC,bh bd,av];exact ⟨_,rfl,aU⟩
theorem ar6 (d:aK) (l:aw) (ad:l.length<=1000): ∃r,Ei (0,d,l,())=some r:=by
 obtain ⟨z,q,-⟩:=dG (b:=pr) (λi (_:H)=>((i:Int),d,l,())) l.length (λ_ _=>True) (λ_=>True) u
  (λi E _ _=>by
   have M:=e5 (i:=i) (l:=l) u;have V:=dZ i;have aY:=e7 i u;obtain ⟨r,ar⟩:=OH d l[i];simp only[pr,M,V,aj,bN,bI,b5 E,ar,aY];cases r
   ·exact .inr ⟨_,trivial,rfl⟩
   ·exact .inl ⟨(),trivial,rfl⟩)
  (λ_ _=>by have M:=fE l;exact ⟨_,trivial,by simp only[pr,M,av];rfl⟩) () trivial
 exact ⟨z,q⟩
theorem ako {m:bE} (h:ij m) (d:aK): ∃r,jN (m,d,())=some (r,()):=by obtain ⟨a,aV,auV⟩:=ajI h;obtain ⟨b,L,eG⟩:=as5 h;obtain ⟨z,bK⟩:=ar6 d (([]++a)++b) (by simp;omega);have M:bG ((List.length ([]:List (aK))+a.length)*32<=bC):=aW (by rw[ez];simp;omega);have V:bG ((List.length (([]:List (aK))++a)+b.length)*32<=bC):=aW (by rw[ez];simp;omega);simp only[jN,aV,L,M,V,aj,bK];cases z<;>exact ⟨_,rfl⟩
abbrev r2:Type:=((bF)×(List (cp))×(aK)×(List bo)×(fh)×H)->Option ((fq)×H)
def pN (Q:cS):Nat->Nat->Prop
 |0,_=>False
 |h+1,i=> ∃n,Q[i]? =some n/\
   ((h=0/\n.2.2.1=[]/\n.1.length<=1000/\ ∀p∈n.1,qB p.1)\/
    (0<h/\ ∃ks:dB,n.2.2.1=bJ ks/\ks.length=n.2.1.length+1/\n.2.1.length<=100/\n.2.2.2.1.length<=1000/\n.2.2.2.2.1.length<=5/\(∀m∈n.2.2.2.2.1,ij m)/\ ∀k∈ks,pN Q h k))
theorem pN.app {Q:cS} (l:cS): ∀{h i:Nat},pN Q h i->pN (Q++l) h i
 |0,_,h=>h.elim
 |h+1,i,⟨n,aN,bg⟩=>by refine ⟨n,?_,bg.imp id λ⟨bW,ks,a,b,c,I,e,f,g⟩=>⟨bW,ks,a,b,c,I,e,f,λk ag=>pN.app l (g k ag)⟩⟩;rw[List.getElem?_append_left (iJ.1 aN).1];exact aN
theorem pN.lt {Q:cS} {h i:Nat} (t:pN Q h i):i<Q.length:=by
 cases h with
 |zero=>exact t.elim
 |succ h=>
  obtain ⟨n,aN,-⟩:=t;exact (iJ.1 aN).1
theorem pN.sum {Q:cS} {h i:Nat} (t:pN Q h i) (n:cz) (aN:Q[i]? =some n): ∃d,na (n,())=some d:=by
 cases h with
 |zero=>exact t.elim
 |succ h=>
  obtain ⟨m,hm,bg⟩:=t;obtain rfl:=eY (hm.symm.trans aN);rcases bg with ⟨-,bW,q,G⟩|⟨-,ks,a,b,c,I,e,f,g⟩
  ·exact akb bW G u
  ·refine ajQ ?_ u (λm hm=>(f m hm).mok) u;intro h;rw[a]at h;have:=congrArg List.length h;rw[fP,List.length_nil]at this;omega
structure KW where
 l:cS
 ks:dB
 sums:hz
theorem ajj (r:r2) (a7:cS) (ks:dB) (bw: ∀k∈ks,k<a7.length) (aN:ks.Nodup) (ad:a7.length<=1000) (m5:ks.length<=1000) (a:qh) (piv:bo) (sums:hz) (buf:cD):
  Kn r (0,[],0,[],a,(mk a7 (λj=>if j∈ks then 2 else 1),()),piv,bJ ks,sums,buf,())=some (.inl ([],0,a,(mk a7 (λ_=>1),()),())):=by
 obtain ⟨z,q,G⟩:=dG (b:=zf r) (λi (p:cb)=>((i:Int),[],0,[],a,(p,()),piv,bJ ks,sums,buf,())) ks.length (λi p=>p=mk a7 (λj=>if j∈ks.drop i then 2 else 1)) (λz=>z=.inl ([],0,a,(mk a7 (λ_=>1),()),())) u
  (λi E p aT=>by
   left;subst aT;refine ⟨_,rfl,?_⟩;have je:ks[i]<a7.length:=bw _ (dJ E);have M:bG (((i:Nat):Int)<((List.length (bJ ks)):Int)):=aW (by rw[fP];omega);have V:=dZ i;have aY:=e7 i u;have ao:ks.drop i=ks[i]::ks.drop (i+1):=l2 E;have dL:(ks[i]::ks.drop (i+1)).Nodup:=by rw[<-ao];exact aN.sublist (List.drop_sublist _ _)
   have mu:=(List.nodup_cons.1 dL).1;have bp:=a20 (Q:=a7) (r:=λj=>if j∈ks.drop i then 2 else 1) je (if_pos (by rw[ao];exact gL)) ad;have cV:mk a7 (λj=>if j=ks[i] then 1 else if j∈ks.drop i then 2 else 1)=mk a7 (λj=>if j∈ks.drop (i+1) then 2 else 1):=Bd λj _=>by
    by_cases al:j=ks[i]
    ·rw[if_pos al,if_neg (by rw[al];exact mu)]
    ·rw[if_neg al];have:j∈ks.drop i↔j∈ks.drop (i+1):=by rw[ao,fe];exact ⟨λh=>h.resolve_left al,.inr⟩
     by_cases G:j∈ks.drop i
     ·rw[if_pos G,if_pos (this.1 G)]
     ·rw[if_neg G,if_neg (λh=>G (this.2 h))]
   rw[cV]at bp;simp only[zf,M,V,aj,bN,bI,lf E,bp,aY])
  (λp aT=>by
   subst aT;have M:(decide (((ks.length:Nat):Int)<((List.length (bJ ks)):Int)))=false:=bh (by rw[fP];omega);have cV:mk a7 (λj=>if j∈ks.drop ks.length then 2 else 1)=mk a7 (λ_=>1):=Bd λj _=>by rw[List.drop_length];simp
   exact ⟨_,rfl,by simp only[zf,M,av,cV]⟩) (mk a7 (λj=>if j∈ks then 2 else 1)) aU
 subst G;exact q
theorem aji (r:r2) (a7:cS) (ks:dB) (bw: ∀k∈ks,k<a7.length) (aN:ks.Nodup) (ad:a7.length<=899) (m5:ks.length<=1000) (piv:bo) (sums:hz) (buf:cD):
  vX r ((mk a7 (λ_=>1),()),[],0,[],piv,bJ ks,sums,buf,())=some (((mk (a7++[([],piv,bJ ks,sums,buf,())]) (λ_=>1),()),((a7.length:Nat):Int),()),()):=by
 have M:=UZ (Q:=a7) (n:=([],piv,bJ ks,sums,buf,())) (ks:=ks) rfl bw aN m5 u;have V:=ajj r (a7++[([],piv,bJ ks,sums,buf,())]) ks (λk ag=>by have:=bw k ag;simp;omega) aN (by simp;omega) m5 ((mk (a7++[([],piv,bJ ks,sums,buf,())]) (λj=>if j∈ks then 2 else 1),()),((a7.length:Int),(0,()))) piv sums buf;simp only[vX,M,V]
structure ajc (x:fh):Prop where
 b0:(∀y∈x.2.1.1,zs y)/\x.2.1.1.length<10^18
 b1:(∀y∈x.2.1.2.1,zs y)/\x.2.1.2.1.length<10^18
 b2:(∀y∈x.2.1.2.2.1,zs y)/\x.2.1.2.2.1.length<10^18
 b3:(∀y∈x.2.1.2.2.2.1,zs y)/\x.2.1.2.2.2.1.length<10^18
structure w2 (t:ak):Prop where
 len:t.length<=1000
 key: ∀p∈t,qB p.1
theorem PN (p s:cp): ∀t:ak,s∈ins p t->s=p\/s∈t
 |[],h=>by simp[ins]at h;exact .inl h
 |x::t,h=>by
  unfold ins at h;cases L:Op.bytesLess x.1 p.1
  ·rw[L,av]at h;rcases fe.1 h with h |h
   ·exact .inl h
   ·exact .inr (e8.1 h).1
  ·rw[L,aj]at h;rcases fe.1 h with h |h
   ·exact .inr (by rw[h];exact gL)
   ·exact (PN p s t h).imp id (gY _)
theorem OV (l:l6) (s:cp) (h:s∈mS l): ∃y∈l,s=oX y:=by
 have key: ∀(l:l6) (t:ak),s∈l.foldl (λt x=>ins (oX x) t) t->s∈t\/ ∃y∈l,s=oX y:=by
  intro l
  induction l with
  |nil=>intro t h;exact .inl h
  |cons x l aO=>
   intro t h;rcases aO _ h with h |⟨y,bu,e⟩
   ·rcases PN _ _ _ h with h |h
    ·exact .inr ⟨x,gL,h⟩
    ·exact .inl h
   ·exact .inr ⟨y,gY _ bu,e⟩
 rcases key l [] h with h |h
 ·simp at h
 ·exact h
theorem akK (n:Int) (bW:0<=n) (q:n<256):qB (l3 n):=by obtain ⟨m,rfl⟩:=Int.eq_ofNat_of_zero_le bW;have au:(List.range 256).all (λk=>(tD (l3 ((k:Nat):Int),())).isSome)=true:=aD;exact fD.1 au m (List.mem_range.2 u)
theorem alZ (l:l6) (h: ∀x∈l,rN x):w2 (mS (l.take 40)):=by
 refine ⟨?_,λp aT=> ?_⟩
 ·have:=A4 (l.take 40);simp only[eE]at this;omega
 ·obtain ⟨y,bu,rfl⟩:=OV _ _ aT;have:=(h y (List.mem_of_mem_take bu)).1;exact akK y.1 this.1 this.2
def cap:Nat->Nat
 |0=>1
 |I+1=>1+6*cap I
structure azG (x:fh):Prop where
 xok:ajc x
 t:(∀y∈x.1,rN y)/\x.1.length<10^18
 w:0<=x.2.2.1/\x.2.2.1<256
def nn:List (List bo):=[[],[[[97,47,98,47],[98,47],[99,47]]],[[[98,47]],[[97,47,2],[97,47,98,47],[99,47]]],[[[97,47,98,47],[98,47]],[[97,47,98,47,2],[99,47],[100,47]]]]
def zx (w:Int):bi:=(i64.wrap (2+i64.wrap (Int.tmod (IntKind.u8.wrap (Int.tdiv w 4)) 4)),(i64.wrap (2+i64.wrap (Int.tmod (IntKind.u8.wrap (Int.tdiv w 16)) 3)),(i64.wrap (1+i64.wrap (IntKind.u8.wrap (Int.tdiv w 64))),())))
theorem akq (x:fh):Gt (x,())=match AM (x.1,()) with
  |none=>none
  |some aa=>bif (decide ((0:Int)<=i64.wrap (Int.tmod x.2.2.1 4))&&decide (i64.wrap (Int.tmod x.2.2.1 4)<(nn.length:Int))) then
    match F7 ((([]:List (iZ)),()),aa.1,(([]:N),(([]:N),())),nn.getD (Int.toNat (i64.wrap (Int.tmod x.2.2.1 4))) [],x,()) with
    |none=>none
    |some bV=>some ((bV.1.1,(bV.1.2.1,(zx x.2.2.1,()))),())
   else none:=rfl
theorem alb {ev fV:Nat} (h:ev+fV<2^62):Int.fdiv (IntKind.u64.wrap (i64.wrap ((ev:Int)+(fV:Int)))) (2^(min (Int.toNat (1:Int)) IntKind.u64.bits))=(((ev+fV)/2:Nat):Int):=by
 have M:i64.wrap ((ev:Int)+(fV:Int))=((ev+fV:Nat):Int):=by rw[cQ u];omega
 have V:IntKind.u64.wrap ((ev+fV:Nat):Int)=((ev+fV:Nat):Int):=by show ((ev+fV:Nat):Int)%2^64=_;omega
 rw[M,V];have aY:(2:Int)^(min (Int.toNat (1:Int)) IntKind.u64.bits)=2:=fc;rw[aY,Int.fdiv_eq_ediv_of_nonneg _ u];omega
abbrev ai5:Type:=(Bool)×(Bool)×N×N×(Int)×N×(Bool)×(Int)×H
end D
open Go Go.X
namespace D
def mT (x y:N):Int:=if Op.bytesLess x y=true then-1 else if x=y then 0 else 1
theorem ak9 {x y:N}:(mT x y=0)↔x=y:=by
 unfold mT;split
 ·rename_i h;have:=nj h;simp[this]
 ·split<;>simp[*]
theorem ac9: ∀(a b:N),Lib.compareBytes a b=mT a b
 |[],[]=>rfl
 |[],_::_=>rfl
 |_::_,[]=>rfl
 |a::x,b::y=>by
  have aO:=ac9 x y;rw[Lib.compareBytes];unfold mT at aO ⊢;simp only[Op.bytesLess];by_cases q:a<b
  ·simp[q]
  ·by_cases G:b<a
   ·have W:a≠b:=by rintro rfl;exact q G
    simp[q,G,W]
   ·have W:a=b:=UInt8.le_antisymm (UInt8.not_lt.1 G) (UInt8.not_lt.1 q);subst W;rw[if_neg q,if_neg q,aO];simp
theorem abO (p:cp) (k:N):Em (p,k,())=some (mT p.1 k,()):=by unfold Em T7 SB;simp only[ac9]
theorem nZ (n:cz):tS (n,())=some (decide ((((n.2.2.1.length):Int):Int)=(0:Int)),()):=rfl
theorem OY (x:o0) (h:zs x): ∃k v f t d,zN (x,())=some (jy (Int.tmod x.1 6) k v f (ot f t) d (i64.wrap (Int.tmod x.2.2.2.2.2.1 8)),())/\ij (jy (Int.tmod x.1 6) k v f (ot f t) d (i64.wrap (Int.tmod x.2.2.2.2.2.1 8)))/\f∈fb/\t∈fb/\d.1.length<=200/\d.2.1.length<=200:=by
 obtain ⟨q,G,W,aC⟩:=h;obtain ⟨k,ag,auq⟩:=acU _ G;obtain ⟨l,ad,el⟩:=acU _ aC;obtain ⟨v,a8,db⟩:=as3 _ W;obtain ⟨f,aM,aer⟩:=abM _ G;obtain ⟨t,aX,oy⟩:=abM _ aC;obtain ⟨t1,t2,t3⟩:=akQ f aM t aX;obtain ⟨_,aur,aus⟩:=mC f (lw f aM);have M:oO (k,())=some ((k,k++[0],()),()):=by
  unfold oO;have hlen:jK.all (λk=>decide (k.length<100))=true:=aD;have:=of_decide_eq_true (fD.1 hlen k ag);have:k.length+([0]:N).length<=bC:=by rw[ez];simp;omega
  simp only[this,aW,aj]
 have az6:k.length<100:=by have hlen:jK.all (λk=>decide (k.length<100))=true:=aD;exact of_decide_eq_true (fD.1 hlen k ag)
 have az8:l.length<100:=by have hlen:jK.all (λk=>decide (k.length<100))=true:=aD;exact of_decide_eq_true (fD.1 hlen l ad)
 have avk:(dW f).1.length<=200/\(dW f).2.1.length<=200:=by have hlen:fb.all (λp=>decide ((dW p).1.length<=200)&&decide ((dW p).2.1.length<=200))=true:=aD;have:=fD.1 hlen f aM;simpa using this
 have fin: ∀d:aK,mD d->(d.1.length<=200/\d.2.1.length<=200)-> ∃eD lz mj iI gJ,(match nC (k,x,(0:Int),([]:N),([]:N),([]:N),([]:N),([]:N),([]:N),(0:Int),d,()) with
   |none=>none
   |some (.inl gk)=>some ((gk.1,(gk.2.1,(gk.2.2.1,(gk.2.2.2.1,(gk.2.2.2.2.1,(gk.2.2.2.2.2.1,(gk.2.2.2.2.2.2.1,()))))))),())
   |some (.inr gk)=>none)=some (jy (Int.tmod x.1 6) eD lz mj (ot mj iI) gJ (i64.wrap (Int.tmod x.2.2.2.2.2.1 8)),())/\ij (jy (Int.tmod x.1 6) eD lz mj (ot mj iI) gJ (i64.wrap (Int.tmod x.2.2.2.2.2.1 8)))/\mj∈fb/\iI∈fb/\gJ.1.length<=200/\gJ.2.1.length<=200:=by
  intro d af qc;refine ⟨k,v,f,t,d,?_,asN _ _ _ _ _ _ _ ag a8 aM t1 af t2 t3,aM,aX,qc⟩;rw[alM k f t v x d db aer oy]
 unfold zN;simp only[auq,el,aer,aur,M];cases decide (Int.tmod x.2.2.2.2.1 4=0) with
 |true=>exact fin _ (Va aus) avk
 |false=>
  simp only[av];cases decide (Int.tmod x.2.2.2.2.1 16=1) with
  |true=>exact fin _ (.inl rfl) ⟨by (try simp only[et,List.length_nil,ia]);omega,by (try simp only[et,List.length_nil,ia]);omega⟩
  |false=>
   simp only[av];cases decide (Int.tmod x.2.2.2.2.1 16=5) with
   |true=>exact fin _ (.inl rfl) ⟨by (try simp only[et,List.length_nil,ia]);omega,by (try simp only[et,List.length_nil,ia]);omega⟩
   |false=>
    simp only[av];by_cases m5:k=l
    ·simp only[aW m5,aj];exact fin _ (.inr (Qc k)) ⟨by (try simp only[et,List.length_nil,ia]);omega,by (try simp only[et,List.length_nil,ia]);omega⟩
    ·simp only[bh m5,av];refine fin _ (Or.inr ?_) ?_
     rotate_left
     ·cases Op.bytesLess k l<;>simp<;>omega
     rcases h0 k l with h |h |h
     ·simp only[h,Bool.true_or,aj,cK,av]
     ·exact absurd h m5
     ·simp only[j6 h,Bool.false_or,Bool.or_false,cH,aj,av];exact h
def rO (x:o0):Prop:=zs x/\(0<=x.2.2.2.2.1/\x.2.2.2.2.1<256)/\0<=x.2.2.2.2.2.1/\x.2.2.2.2.2.1<256
def gb (m:bE):Prop:= ∃x:o0,rO x/\zN (x,())=some (m,())
theorem gb.ok {m:bE} (h:gb m):ij m:=by obtain ⟨x,an,e⟩:=h;obtain ⟨k,v,f,t,d,V,ok,-,-⟩:=OY x an.1;have aY:=eY (e.symm.trans V);have bp:m=_:=congrArg Prod.fst aY;rw[bp];exact ok
theorem adU (l:List o0) (h: ∀x∈l,rO x) (n:Nat) (aN:n<=1000) (ad:l.length<10^18): ∃ms,zM (l,(n:Int),())=some (ms,())/\ms.length<=n/\ ∀m∈ms,gb m:=by
 obtain ⟨z,q,ms,rfl,G,W⟩:=dG (b:=zq) (λi (out:cD)=>(l,(n:Int),(i:Int),out,())) (min l.length n) (λi out=>out.length=i/\ ∀m∈out,gb m) (λz=> ∃ms,z=.inl (ms,())/\ms.length<=n/\ ∀m∈ms,gb m) u
  (λi E out ab=>by
   left;obtain ⟨yv,vx⟩:=ab;have iE:i<l.length:=u;obtain ⟨yT,e,ok⟩: ∃yT,zN (l[i],())=some (yT,())/\gb yT:=by obtain ⟨k,v,f,t,d,e,ok,-,-⟩:=OY l[i] (h _ (dJ iE)).1;exact ⟨_,e,l[i],h _ (dJ iE),e⟩
   refine ⟨out++[yT],⟨by rw[et,yv];rfl,λm hm=> ?_⟩,?_⟩
   rotate_left
   ·have M:=e5 (i:=i) (l:=l) u;have V:=dZ i;have aY:=e7 i u;have bp:bG (((i:Nat):Int)<(n:Int)):=aW u;have cV: ∀x:bE,(decide ((out.length+List.length ([x]:List (bE)))*112<=bC))=true:=λx=>aW (by rw[yv,ez];simp;omega)
    simp only[zq,Dz,M,V,bp,aj,bN,bI,b5 iE,e,cV,aY]
   ·rcases dn.1 hm with hm |hm
    ·exact vx m hm
    ·rw[gl.1 hm];exact ok)
  (λout ab=>by
   obtain ⟨yv,vx⟩:=ab;refine ⟨_,⟨out,rfl,u,vx⟩,?_⟩;rcases Nat.lt_or_ge (min l.length n) l.length with q |q
   ·have M:bG (((min l.length n:Nat):Int)<((l.length):Int)):=aW u;have bp:(decide (((min l.length n:Nat):Int)<(n:Int)))=false:=bh u;simp only[zq,Dz,M,bp,aj,av]
   ·have M:(decide (((min l.length n:Nat):Int)<((l.length):Int)))=false:=bh u;simp only[zq,Dz,M,av]) [] ⟨rfl,aU⟩
 have dt:M1 (l,(n:Int),0,[],())=some (.inl (ms,())):=q;exact ⟨ms,by simp only[zM,dt],G,W⟩
theorem Gg (l:List o0) (h: ∀x∈l,rO x) (d:aK) (ad:l.length<10^18): ∃ms,wc (l,d,(5:Int),())=some (ms,())/\ms.length<=5/\ ∀m∈ms,gb m/\jN (m,d,())=some (true,()):=by
 obtain ⟨all,q,G,W⟩:=adU l h 15 u ad;obtain ⟨z,g1,ms,rfl,g2,g3⟩:=dG (b:=kw) (λi (out:cD)=>((5:Int),(i:Int),d,out,all,())) all.length (λi out=>out.length<=5/\ ∀m∈out,gb m/\jN (m,d,())=some (true,())) (λz=> ∃ms,z=.inl (ms,())/\ms.length<=5/\ ∀m∈ms,gb m/\jN (m,d,())=some (true,())) u
  (λi E out ab=>by
   obtain ⟨yv,vx⟩:=ab;have M:=e5 (i:=i) (l:=all) u;have V:=dZ i;have aY:=e7 i u;by_cases bd:out.length<5
   ·left;have bp:bG ((((out.length):Int):Int)<(5:Int)):=aW u;obtain ⟨r,ar⟩:=ako (W all[i] (dJ E)).ok d;have cV: ∀x:bE,(decide ((out.length+List.length ([x]:List (bE)))*112<=bC))=true:=λx=>aW (by rw[ez];simp;omega)
    cases r with
    |false=>exact ⟨out,⟨yv,vx⟩,by simp only[kw,yI,M,V,bp,aj,av,bN,bI,b5 E,ar,aY]⟩
    |true=>
     refine ⟨out++[all[i]],⟨by simp;omega,λm hm=> ?_⟩,by simp only[kw,yI,M,V,bp,aj,av,bN,bI,b5 E,ar,cV,aY]⟩;rcases dn.1 hm with hm |hm
     ·exact vx m hm
     ·rw[gl.1 hm];exact ⟨W _ (dJ E),ar⟩
   ·right;have bp:(decide ((((out.length):Int):Int)<(5:Int)))=false:=bh u;exact ⟨_,⟨out,rfl,yv,vx⟩,by simp only[kw,yI,M,bp,aj,av]⟩)
  (λout ab=>by have M:=fE all;exact ⟨_,⟨out,rfl,ab.1,ab.2⟩,by simp only[kw,yI,M,av]⟩) [] ⟨aU,aU⟩
 have j7:TB (5,0,d,[],all,())=some (.inl (ms,())):=g1;have da:i64.wrap ((3:Int)*5)=((15:Nat):Int):=by rw[cQ u];rfl
 exact ⟨ms,by simp only[wc,da,q,j7],g2,g3⟩
def cM (P:bo) (d:aK):bo:=P.filter λk=>(!(Op.bytesLess k d.1||decide (k=d.1)))&&cl d k
def partsOf (d:aK) (m:bo):aw:=((zH (d,m,())).map (·.1)).getD []
theorem ua (P:bo) (d:aK):(cM P d).length<=P.length:=hZ _ _
theorem GV (d:aK) (m:bo) (ad:m.length<=10^5):zH (d,m,())=some (partsOf d m,())/\(partsOf d m).length=m.length+1:=by
 obtain ⟨l,q,G⟩:=ajF d m ad;have e:partsOf d m=l:=by unfold partsOf;rw[q];rfl
 rw[e];exact ⟨q,G⟩
theorem alj (n:cz) (d:aK) (bW:n.2.2.1≠[]) (ad:n.2.1.length<=10^5):EN (n,d,())=some (partsOf d n.2.1,()):=by
 obtain ⟨q,G⟩:=GV d n.2.1 ad;have ch:(decide ((((n.2.2.1.length):Int):Int)=(0:Int)))=false:=bh (by have:=List.length_pos_iff.2 bW;omega)
 simp only[EN,ch,av,q]
theorem att (r:r2) (t:ak) (aI:List bo) (p:bF) (d:aK) (x:fh) (bW:0<aI.length) (ad:(aI.getD 0 []).length<=100):
  Kl r (t,aI,0,p,d,x,[],0,[],())=some (.inl (t,aI,p,d,x,[],0,cM (aI.getD 0 []) d,())):=by
 obtain ⟨P,hR⟩: ∃P,aI.getD 0 []=P:=⟨_,rfl⟩;rw[hR]at ad ⊢;obtain ⟨z,q,rfl⟩:=dG (b:=ze r) (λi (fR:bo)=>(t,aI,(i:Int),p,d,x,[],0,fR,())) P.length (λi fR=>fR=cM (P.take i) d) (λz=>z=.inl (t,aI,p,d,x,[],0,cM P d,())) u
  (λi E fR hm=>by
   left;have ch:bG (((0:Int):Int)<(aI.length:Int)):=aW u;have M:=e5 (i:=i) (l:=P) u;have V:=dZ i;have aY:=e7 i u;have jX:fR.length<=i:=by rw[hm];have:=ua (P.take i) d;rw[eE]at this;omega
   have cV: ∀k:N,(decide ((fR.length+List.length ([k]:bo))*16<=bC))=true:=λk=>aW (by rw[ez];simp;omega)
   have af:cM (P.take (i+1)) d=fR++cM [P[i]] d:=by rw[eH E,hm];unfold cM;rw[List.filter_append]
   simp only[ze,Tu,ch,M,V,hR,aj,bN,bI,b5 E,U6,cV,aY];unfold cM at af;simp only[List.filter_cons,List.filter_nil]at af;cases G:(!(Op.bytesLess P[i] d.1||decide ((P[i]:N)=d.1)))
   ·rw[G]at af;exact ⟨fR,by unfold cM;rw[af];simp,by simp only[av]⟩
   ·rw[G]at af;cases W:cl d P[i]
    ·rw[W]at af;exact ⟨fR,by unfold cM;rw[af];simp,by simp only[aj,av]⟩
    ·rw[W]at af;exact ⟨fR++[P[i]],by unfold cM;rw[af];simp,by simp only[aj]⟩)
  (λfR hm=>by have ch:bG (((0:Int):Int)<(aI.length:Int)):=aW u;have M:=fE P;rw[eu]at hm;subst hm;exact ⟨_,rfl,by simp only[ze,ch,M,hR,aj,av]⟩) [] rfl
 exact q
def qF (Q:cS) (k:Nat) (d:eV):Prop:= ∃kid,Q[k]? =some kid/\na (kid,())=some (d,())
abbrev b6:aK:=(([]:N),(([]:N),()))
abbrev n1:eV:=(((0:Int),((0:Int),())),(((0:Int),((0:Int),())),()))
def hE (Q:cS) (t:ak):List bo->aK->Nat->Prop
 |[],d,i=>Q[i]? =some (inS d t,[],[],[],[],())
 |P::aI,d,i=> ∃(ks:dB) (sums:hz) (buf:cD),
   Q[i]? =some ([],cM P d,bJ ks,sums,buf,())/\ks.length=(cM P d).length+1/\sums.length=ks.length/\ks.Nodup/\(∀k∈ks,k<i)/\
   buf.length<=5/\(∀m∈buf,gb m/\jN (m,d,())=some (true,()))/\
   ∀j,j<ks.length->hE Q t aI (List.getD (partsOf d (cM P d)) j b6) (ks.getD j 0)/\qF Q (ks.getD j 0) (sums.getD j n1)
theorem qF.app {Q:cS} (l:cS) {k:Nat} {d:eV} (h:qF Q k d):qF (Q++l) k d:=by obtain ⟨n,q,G⟩:=h;refine ⟨n,?_,G⟩;rw[List.getElem?_append_left (iJ.1 q).1];exact q
theorem hE.app {Q:cS} {t:ak} (l:cS): ∀{aI:List bo} {d:aK} {i:Nat},hE Q t aI d i->hE (Q++l) t aI d i
 |[],d,i,h=>by show (Q++l)[i]? =_;rw[List.getElem?_append_left (iJ.1 h).1];exact h
 |P::aI,d,i,⟨ks,sums,buf,q,G,W,aC,bd,bD,dU,gB⟩=>by refine ⟨ks,sums,buf,?_,G,W,aC,bd,bD,dU,λj al=>⟨hE.app l (gB j al).1,(gB j al).2.app l⟩⟩;rw[List.getElem?_append_left (iJ.1 q).1];exact q
theorem hE.ok {Q:cS} {t:ak} (aX:w2 t): ∀{aI:List bo} {d:aK} {i:Nat},(∀s∈aI,s.length<=5)->hE Q t aI d i->pN Q (aI.length+1) i
 |[],d,i,aP,h=>⟨_,h,.inl ⟨rfl,rfl,by have:=sj d t;have:=aX.len;show (inS d t).length<=1000;omega,λp aT=>aX.key p (e8.1 aT).1⟩⟩
 |P::aI,d,i,aP,⟨ks,sums,buf,q,G,W,aC,bd,bD,dU,gB⟩=>by have hR:=aP P gL;have hm:=ua P d;refine ⟨_,q,.inr ⟨aU,ks,rfl,G,by show (cM P d).length<=100;omega,by show sums.length<=1000;omega,bD,λm hm=>(dU m hm).1.ok,λk ag=> ?_⟩⟩;obtain ⟨j,al,rfl⟩:=List.mem_iff_getElem.1 ag;have:=(gB j al).1;rw[b5 al]at this;exact hE.ok aX (λs hU=>aP s (gY _ hU)) this
theorem hE.lt {Q:cS} {t:ak}: ∀{aI:List bo} {d:aK} {i:Nat},hE Q t aI d i->i<Q.length
 |[],d,i,h=>(iJ.1 h).1
 |P::aI,d,i,⟨ks,sums,buf,q,_⟩=>(iJ.1 q).1
theorem NT {α:Type} {l:List α} {x I:α} {j:Nat} (h:j<l.length):List.getD (l++[x]) j I=l.getD j I:=by simp[List.getD,List.getElem?_append_left h]
theorem F0 {α:Type} {l:List α} {x I:α} {j:Nat} (h:j=l.length):List.getD (l++[x]) j I=x:=by subst h;simp[List.getD]
def tR:List bo->aK->Nat
 |[],_=>1
 |P::aI,d=>1+((partsOf d (cM P d)).map (tR aI)).sum
def xF (n:cz):Prop:=n.1.length<=1000/\n.2.1.length<=1000/\n.2.2.1.length<=1000/\n.2.2.2.1.length<=1000/\n.2.2.2.2.1.length<=1000
structure FD (x:fh):Prop where
 b0:(∀y∈x.2.1.1,rO y)/\x.2.1.1.length<10^18
 b1:(∀y∈x.2.1.2.1,rO y)/\x.2.1.2.1.length<10^18
 b2:(∀y∈x.2.1.2.2.1,rO y)/\x.2.1.2.2.1.length<10^18
 b3:(∀y∈x.2.1.2.2.2.1,rO y)/\x.2.1.2.2.2.1.length<10^18
theorem ats (r:r2) (x:fh) (an:FD x) (w:Nat) (hw:w<4) (p:bF) (d:aK) (piv:bo) (kids:cC) (sums:hz):
  ∃buf:cD,buf.length<=5/\(∀m∈buf,gb m/\jN (m,d,())=some (true,()))/\DU r ((w:Int),p,d,x,[],0,[],[],piv,kids,sums,())=vX r (p,[],0,[],piv,kids,sums,buf,()):=by
 obtain ⟨f0,a0,dr,a2⟩:=Gg _ an.b0.1 d an.b0.2;obtain ⟨f1,HE,bj,ba⟩:=Gg _ an.b1.1 d an.b1.2;obtain ⟨f2,d0,d1,d2⟩:=Gg _ an.b2.1 d an.b2.2;obtain ⟨f3,g0,g1,g2⟩:=Gg _ an.b3.1 d an.b3.2;have M:=dZ w;have V:bG ((w:Int)<4):=aW u;simp only[DU,M,V,aj,bN,bI]
 match w,hw with
 |0,_=>exact ⟨f0,dr,a2,by simp only[a0];rfl⟩
 |1,_=>exact ⟨f1,bj,ba,by simp only[HE];rfl⟩
 |2,_=>exact ⟨f2,d1,d2,by simp only[d0];rfl⟩
 |3,_=>exact ⟨f3,g1,g2,by simp only[g0];rfl⟩
structure Av (x:fh):Prop where
 xok:FD x
 t:(∀y∈x.1,rN y)/\x.1.length<10^18
 w:0<=x.2.2.1/\x.2.2.1<256
def ny (x:fh):ak:=mS (x.1.take 40)
def mb (x:fh):List bo:=nn.getD (x.2.2.1.toNat%4) []
theorem P9 (x:fh):mb x∈nn:=by have hw:x.2.2.1.toNat%4<nn.length:=Nat.mod_lt _ fc;unfold mb;rw[b5 hw];exact dJ hw
theorem Pe: ∀aI∈nn,aI.length<=2/\ ∀s∈aI,s.length<=5:=fc
def xP (k:N):Nat:=match pw (k,()) with
 |some (p,e,_)=>bif !decide (e=0) then 0 else bif decide (p.2.1=1) then 1 else bif decide (p.2.1=4) then 0 else 2
 |none=>9
def mU (k:N):Nat:=match tD (k,()) with
 |some (p,e,_)=>bif !decide (e=0) then 0 else bif decide (p.2.1=1) then 1 else bif decide (p.2.1=2) then 2 else bif decide (p.2.1=3) then 2 else 0
 |none=>9
def qQ (c n:Nat):tV:=match c with
 |1=>((1,(0,())),())
 |2=>((0,((n:Int),())),())
 |_=>((0,(0,())),())
theorem aud {p:cp} (h:xP p.1≠9):KQ (p,())=some (qQ (xP p.1) p.2.1.length):=by
 unfold xP at h ⊢;simp only[KQ];cases e:pw (p.1,()) with
 |none=>rw[e]at h;exact absurd rfl h
 |some r=>
  obtain ⟨s,x,ae⟩:=r;simp only;cases (!decide (x=0))
  ·simp only[av];cases decide (s.2.1=1)
   ·simp only[av];cases decide (s.2.1=4)<;>rfl
   ·rfl
  ·rfl
theorem aue {p:cp} (h:mU p.1≠9):zw (p,())=some (qQ (mU p.1) p.2.1.length):=by
 unfold mU at h ⊢;simp only[zw];cases e:tD (p.1,()) with
 |none=>rw[e]at h;exact absurd rfl h
 |some r=>
  obtain ⟨s,x,ae⟩:=r;simp only;cases (!decide (x=0))
  ·simp only[av];cases decide (s.2.1=1)
   ·simp only[av];cases decide (s.2.1=2)
    ·simp only[av];cases decide (s.2.1=3)<;>rfl
    ·rfl
   ·rfl
  ·rfl
theorem alv (n:Int) (bW:0<=n) (q:n<256):xP (l3 n)=mU (l3 n)/\mU (l3 n)<=2:=by obtain ⟨m,rfl⟩:=Int.eq_ofNat_of_zero_le bW;have au:(List.range 256).all (λk=>decide (xP (l3 ((k:Nat):Int))=mU (l3 ((k:Nat):Int)))&&decide (mU (l3 ((k:Nat):Int))<=2))=true:=aD;have:=fD.1 au m (List.mem_range.2 u);simpa using this
def K3 (p:cp):Prop:=xP p.1=mU p.1/\mU p.1<=2/\p.2.1.length<=64
theorem P6 {c n:Nat} (aN:n<=64):(0<=(qQ c n).1.1/\(qQ c n).1.1<=64)/\0<=(qQ c n).1.2.1/\(qQ c n).1.2.1<=64:=by unfold qQ;split<;>simp<;>omega
theorem alm (l:ak) (h: ∀p∈l,K3 p) (ad:l.length<=10^6):
  ∃a b:Int,FZ (l,())=some ((a,(b,())),())/\zI (l,())=some ((a,(b,())),())/\(0<=a/\a<=64*l.length)/\0<=b/\b<=64*l.length:=by
 let st:Int×Int->cp->Int×Int:=λs p=>(s.1+(qQ (mU p.1) p.2.1.length).1.1,s.2+(qQ (mU p.1) p.2.1.length).1.2.1)
 let F:Nat->Int×Int:=λi=>(l.take i).foldl st (0,0)
 have fj: ∀i,(E:i<l.length)->F (i+1)=st (F i) l[i]:=λi E=>by show (l.take (i+1)).foldl st (0,0)=_;rw[eH E,List.foldl_append];rfl
 have de: ∀i,i<=l.length->(0<=(F i).1/\(F i).1<=64*i)/\0<=(F i).2/\(F i).2<=64*i:=by
  intro i
  induction i with
  |zero=>intro _;exact ⟨⟨Int.le_refl _,by simp[F]⟩,Int.le_refl _,by simp[F]⟩
  |succ i aO=>
   intro E;have q:=aO u;have G:=P6 (c:=mU l[i].1) (h l[i] (dJ u)).2.2;rw[fj i u];simp only[st];omega
 obtain ⟨z,g1,rfl⟩:=dG (b:=DO) (λi (s:Int×Int)=>(l,(l.length:Int),(i:Int),0,0,s.1,s.2,())) l.length (λi s=>s=F i) (λz=>z=.inl (0,0,(F l.length).1,(F l.length).2,())) u
  (λi E s aP=>by left;subst aP;obtain ⟨fJ,fT,nV⟩:=h l[i] (dJ E);have au:=aud (p:=l[i]) u;have L:=de i u;have hu:=P6 (c:=mU l[i].1) nV;have M:=e5 (i:=i) (l:=l) u;have V:=dZ i;have aY:=e7 i u;rw[fJ]at au;refine ⟨F (i+1),rfl,?_⟩;rw[fj i E];simp only[DO,M,V,aj,bN,bI,b5 E,au,aY,st];rw[cQ u,cQ u])
  (λs aP=>by subst aP;have M:=fE l;exact ⟨_,rfl,by simp only[DO,M,av]⟩) (0,0) rfl
 obtain ⟨z,g2,rfl⟩:=dG (b:=tk) (λi (s:Int×Int)=>(l,(i:Int),0,0,s.1,s.2,())) l.length (λi s=>s=F i) (λz=>z=.inl (0,0,(F l.length).1,(F l.length).2,())) u
  (λi E s aP=>by left;subst aP;obtain ⟨fJ,fT,nV⟩:=h l[i] (dJ E);have au:=aue (p:=l[i]) u;have L:=de i u;have hu:=P6 (c:=mU l[i].1) nV;have M:=e5 (i:=i) (l:=l) u;have V:=dZ i;have aY:=e7 i u;refine ⟨F (i+1),rfl,?_⟩;rw[fj i E];simp only[tk,M,V,aj,bN,bI,b5 E,au,aY,st];rw[cQ u,cQ u])
  (λs aP=>by subst aP;have M:=fE l;exact ⟨_,rfl,by simp only[tk,M,av]⟩) (0,0) rfl
 have j7:L8 (l,(l.length:Int),0,0,0,0,0,())=some (.inl (0,0,(F l.length).1,(F l.length).2,())):=g1;have auu:Ke (l,0,0,0,0,0,())=some (.inl (0,0,(F l.length).1,(F l.length).2,())):=g2;have L:=de l.length (ca _);exact ⟨(F l.length).1,(F l.length).2,by simp only[FZ,j7],by simp only[zI,auu],L.1,L.2⟩
def jR (d:eV):Prop:=(0<=d.1.1/\d.1.1<=d.1.2.1/\d.1.2.1<=1000000000000000)/\0<=d.2.1.1/\d.2.1.1<=d.2.1.2.1/\d.2.1.2.1<=1000000000000000
theorem aki {n:cz} (bW:n.2.2.1=[]) (h: ∀p∈n.1,K3 p) (ad:n.1.length<=10^6): ∃d,abs (n,())=some (d,())/\na (n,())=some (d,())/\jR d:=by
 obtain ⟨a,b,q,G,W,aC⟩:=alm n.1 h ad;have M:bG ((((n.2.2.1.length):Int):Int)=(0:Int)):=by rw[bW];rfl
 refine ⟨((a,(a,())),((b,(b,())),())),by simp only[abs,M,aj,q],by simp only[na,M,aj,G,F6],?_⟩;show (0<=a/\a<=a/\a<=_)/\0<=b/\b<=b/\b<=_;omega
theorem gb.form {m:bE} (h:gb m): ∃a k v f t d n,m=jy a k v f t d n/\(0<=a/\a<6)/\(0<=n/\n<8)/\d.1.length<=200/\d.2.1.length<=200:=by
 obtain ⟨x,⟨an,-,q,G⟩,e⟩:=h;obtain ⟨k,v,f,t,d,V,-,-,-,dH,ds⟩:=OY x an;have bp:m=_:=congrArg Prod.fst (eY (e.symm.trans V));have W:=an.1;refine ⟨_,k,v,f,_,d,_,bp,?_,?_,dH,ds⟩
 ·rw[Int.tmod_eq_emod_of_nonneg W.1];omega
 ·rw[Int.tmod_eq_emod_of_nonneg q,cQ u];omega
def hI (x:Int):Int:=if x<0 then 0 else if 1000000000000000<x then 1000000000000000 else x
def gV (x:Int):Int:=if 1000000000000000<x then 1000000000000000 else x
theorem BN {aR E a b:Int} (c I:Int) (q: -1000000000000000<=aR/\aR<=1000000000000000) (G:0<=E/\E<=1000000000000000) (W:0<=a/\a<=1000000000000000) (aC:0<=b/\b<=1000000000000000):
  tG (aR,E,a,b,c,I,())=some (hI (a+aR),gV (b+E),c,I,()):=by
 have M:i64.wrap (a+aR)=a+aR:=cQ u;have V:i64.wrap (b+E)=b+E:=cQ u;have aY:(if (1000000000000000:Int)<(if a+aR<0 then 0 else a+aR) then (1000000000000000:Int) else (if a+aR<0 then 0 else a+aR))=hI (a+aR):=by
  unfold hI;by_cases h:a+aR<0
  ·simp[h]
  ·simp[h]
 simp only[tG,M,V,aY];rfl
theorem BO {aR E c I:Int} (a b:Int) (q: -1000000000000000<=aR/\aR<=1000000000000000) (G:0<=E/\E<=1000000000000000) (W:0<=c/\c<=1000000000000000) (aC:0<=I/\I<=1000000000000000):
  tn (aR,E,a,b,c,I,())=some (a,b,hI (c+aR),gV (I+E),()):=by
 have M:i64.wrap (c+aR)=c+aR:=cQ u;have V:i64.wrap (I+E)=I+E:=cQ u;have aY:(if (1000000000000000:Int)<(if c+aR<0 then 0 else c+aR) then (1000000000000000:Int) else (if c+aR<0 then 0 else c+aR))=hI (c+aR):=by
  unfold hI;by_cases h:c+aR<0
  ·simp[h]
  ·simp[h]
 simp only[tn,M,V,aY];rfl
theorem Hk {aR E a b c I:Int} (q: -1000000000000000<=aR/\aR<=1000000000000000) (G:0<=E/\E<=1000000000000000) (W:0<=a/\a<=1000000000000000) (aC:0<=b/\b<=1000000000000000) (bd:0<=c/\c<=1000000000000000) (bD:0<=I/\I<=1000000000000000):
  zK (aR,E,a,b,c,I,())=some (hI (a+aR),gV (b+E),hI (c+aR),gV (I+E),()):=by
 simp only[zK,BN c I q G W aC,BO _ _ q G bd bD]
def uZ (k:N):Bool:=match pw (k,()) with
 |some (p,e,_)=>decide (e=0)&&decide (p.2.1=1)
 |none=>false
theorem adg: ∀k∈jK,(pw (k,())).isSome=true/\tp (k,())=some (uZ k,()):=by
 have h:jK.all (λk=>(pw (k,())).isSome&&(match tp (k,()) with |some (b,_)=>b==uZ k |none=>false))=true:=aD;intro k ag;have:=fD.1 h k ag;rw[bQ]at this;refine ⟨this.1,?_⟩;have G:=this.2;cases e:tp (k,()) with
 |none=>rw[e]at G;cases G
 |some s=>
  obtain ⟨b,ae⟩:=s;rw[e]at G;have:b=uZ k:=by simpa using G
  rw[this]
theorem xu:(pw (([]:N),())).isSome=true:=aD
theorem acN: ∀f∈fb,∀t∈fb,∃b,AR (f,t,())=some (b,())/\tM (f,t,())=some (b,()):=by
 have h:fb.all (λf=>fb.all λt=>match AR (f,t,()),tM (f,t,()) with |some (a,_),some (b,_)=>a==b |_,_=>false)=true:=aD;intro f aM t aX;have G:=fD.1 (fD.1 h f aM) t aX;cases e:AR (f,t,()) with
 |none=>rw[e]at G;cases G
 |some s=>
  cases aY:tM (f,t,()) with
  |none=>rw[e,aY]at G;cases G
  |some r=>
   obtain ⟨a,ae⟩:=s;obtain ⟨b,v⟩:=r;rw[e,aY]at G;have:a=b:=by simpa using G
   subst this;exact ⟨a,rfl,rfl⟩
theorem pQ (l:cD) (i:Nat) (E:i<l.length) (ad:l.length<=10^6) (x y z w a b c I:Int) (ag:(pw (l[i].2.1,())).isSome=true):
  tC (l,(l.length:Int),(i:Int),x,y,z,w,a,b,c,I,())=nB (uZ l[i].2.1,l,(l.length:Int),(i:Int),x,y,z,w,a,b,c,I,l[i],()):=by
 have M:=e5 (i:=i) (l:=l) u;have V:=dZ i;obtain ⟨s,aP⟩:=Option.isSome_iff_exists.1 ag;simp only[tC,M,V,aj,bN,bI,b5 E,aP,uZ];obtain ⟨p,e,ae⟩:=s;simp only;cases decide (e=0)<;>rfl
theorem alR {m:bE} (hm:gb m) (a b c I:Int) (q:0<=a/\a<=b/\b<=1000000000000000) (G:0<=c/\c<=I/\I<=1000000000000000):
  ∃bt bZ eF lI:Int,k9 (((a,(b,())),((c,(I,())),())),m,())=some (((bt,(bZ,())),((eF,(lI,())),())),())/\(0<=bt/\bt<=bZ/\bZ<=1000000000000000)/\(0<=eF/\eF<=lI/\lI<=1000000000000000)/\
   ∀(l:cD) (i:Nat) (E:i<l.length) (ad:l.length<=10^6) (he:l[i]=m) (x y z w:Int),
    tC (l,(l.length:Int),(i:Int),x,y,z,w,a,b,c,I,())=some (.inl (l,(l.length:Int),((i+1:Nat):Int),x,y,z,w,bt,bZ,eF,lI,())):=by
 have cI:=hm.ok;obtain ⟨s,k,v,f,t,d,n,rfl,aP,aN,-,-⟩:=hm.form;have du:i64.wrap (b+1)=b+1:=cQ u;have dc: ∀i:Nat,i<=10^6->i64.wrap ((i:Int)+1)=((i+1:Nat):Int):=λi E=>by rw[cQ u];omega
 have gK:i64.wrap (c-64)=c-64:=cQ u;have kk:i64.wrap (a-1)=a-1:=cQ u;have Cb:s=0\/s=1\/s=2\/s=3\/s=4\/s=5:=u;rcases Cb with rfl |rfl |rfl |rfl |rfl |rfl
 ·
  have gR:jy 0 k v f t d n=(1,k,v,([],[],()),[],[],n,()):=rfl;rw[gR]at cI ⊢;have ag:k∈jK:=cI.key (.inl rfl);have a8:v.length<=10:=cI.val rfl;obtain ⟨fJ,fT⟩:=adg k ag;have Es:i64.wrap (I+(v.length:Int))=I+(v.length:Int):=cQ u;cases q7:uZ k with
  |true=>
   refine ⟨a,(if b+1<1000000000000000 then b+1 else 1000000000000000),c,I,?_,by split<;>omega,G,λl i E ad he x y z w=> ?_⟩
   ·simp only[k9,cf,aj,fT,q7,rG,du]
   ·rw[pQ l i E ad _ _ _ _ _ _ _ _ (by rw[he];exact fJ)];have bq:hI (a+0)=a:=by unfold hI;split<;>(try split)<;>omega
    have bU:gV (b+1)=(if b+1<1000000000000000 then b+1 else 1000000000000000):=by unfold gV;split<;>split<;>omega
    simp only[he,q7,nB,ow,cf,aj,BN (aR:=(0:Int)) (E:=1) (a:=a) (b:=b) c I u u u u,bq,bU,dc i u]
  |false=>
   refine ⟨a,b,(if 0<c-64 then c-64 else 0),(if I+(v.length:Int)<1000000000000000 then I+(v.length:Int) else 1000000000000000),?_,q,by split<;>split<;>omega,λl i E ad he x y z w=> ?_⟩
   ·simp only[k9,cf,aj,av,fT,q7,rG,tE,gK,Es]
   ·rw[pQ l i E ad _ _ _ _ _ _ _ _ (by rw[he];exact fJ)];have bq:hI (c+ -64)=(if 0<c-64 then c-64 else 0):=by unfold hI;split<;>split<;>(try split)<;>omega
    have bU:gV (I+(v.length:Int))=(if I+(v.length:Int)<1000000000000000 then I+(v.length:Int) else 1000000000000000):=by unfold gV;split<;>split<;>omega
    simp only[he,q7,nB,ow,cf,aj,av,BO (aR:=(-64:Int)) (E:=(v.length:Int)) (c:=c) (I:=I) a b u u u u,bq,bU,dc i u]
 ·
  have gR:jy 1 k v f t d n=(2,k,[],([],[],()),[],[],0,()):=rfl;rw[gR]at cI ⊢;have ag:k∈jK:=cI.key (.inr rfl);obtain ⟨fJ,fT⟩:=adg k ag;have f1:(decide ((2:Int)=1))=false:=rfl;cases q7:uZ k with
  |true=>
   refine ⟨(if 0<a-1 then a-1 else 0),b,c,I,?_,by split<;>omega,G,λl i E ad he x y z w=> ?_⟩
   ·simp only[k9,f1,cf,aj,av,fT,q7,tE,kk]
   ·rw[pQ l i E ad _ _ _ _ _ _ _ _ (by rw[he];exact fJ)];have bq:hI (a+ -1)=(if 0<a-1 then a-1 else 0):=by unfold hI;split<;>split<;>(try split)<;>omega
    have bU:gV (b+0)=b:=by unfold gV;split<;>omega
    simp only[he,q7,nB,ow,qe,f1,cf,aj,av,BN (aR:=(-1:Int)) (E:=0) (a:=a) (b:=b) c I u u u u,bq,bU,dc i u]
  |false=>
   refine ⟨a,b,(if 0<c-64 then c-64 else 0),I,?_,q,by split<;>omega,λl i E ad he x y z w=> ?_⟩
   ·simp only[k9,f1,cf,aj,av,fT,q7,tE,gK]
   ·rw[pQ l i E ad _ _ _ _ _ _ _ _ (by rw[he];exact fJ)];have bq:hI (c+ -64)=(if 0<c-64 then c-64 else 0):=by unfold hI;split<;>split<;>(try split)<;>omega
    have bU:gV (I+0)=I:=by unfold gV;split<;>omega
    simp only[he,q7,nB,ow,qe,f1,cf,aj,av,BO (aR:=(-64:Int)) (E:=0) (c:=c) (I:=I) a b u u u u,bq,bU,dc i u]
 ·
  have gR:jy 2 k v f t d n=(3,[],[],d,[],[],0,()):=rfl;rw[gR]at cI ⊢;have f1:(decide ((3:Int)=1))=false:=rfl;have f2:(decide ((3:Int)=2))=false:=rfl;have f6:(decide ((3:Int)=6))=false:=rfl;refine ⟨0,b,0,I,?_,u,u,λl i E ad he x y z w=> ?_⟩
  ·simp only[k9,f1,f2,f6,cf,aj,av]
  ·rw[pQ l i E ad _ _ _ _ _ _ _ _ (by rw[he];exact xu)];have bq:hI (a+ -1000000000000000)=0:=by unfold hI;split<;>(try split)<;>omega
   have bU:gV (b+0)=b:=by unfold gV;split<;>omega
   have dD:hI (c+ -1000000000000000)=0:=by unfold hI;split<;>(try split)<;>omega
   have dx:gV (I+0)=I:=by unfold gV;split<;>omega
   simp only[he,nB,ow,qe,f1,f2,f6,cf,aj,av,Hk (aR:=(-1000000000000000:Int)) (E:=0) (a:=a) (b:=b) (c:=c) (I:=I) u u u u u u,bq,bU,dD,dx,dc i u]
 ·
  have gR:jy 3 k v f t d n=(4,[],[],([],[],()),f,t,0,()):=rfl;rw[gR]at cI ⊢;obtain ⟨Oh,g1,g2⟩:=acN f (cI.from_ (.inl rfl)) t (cI.to_ (.inl rfl));have f1:(decide ((4:Int)=1))=false:=rfl;have f2:(decide ((4:Int)=2))=false:=rfl;have f3:(decide ((4:Int)=3))=false:=rfl;have f5:(decide ((4:Int)=5))=false:=rfl;have f6:(decide ((4:Int)=6))=false:=rfl;have bq:hI (a+ -1000000000000000)=0:=by unfold hI;split<;>(try split)<;>omega
  have dD:hI (c+ -1000000000000000)=0:=by unfold hI;split<;>(try split)<;>omega
  cases Oh with
  |false=>
   refine ⟨0,1000000000000000,0,1000000000000000,?_,u,u,λl i E ad he x y z w=> ?_⟩
   ·simp only[k9,f1,f2,f3,f6,av,g2,cH,aj]
   ·rw[pQ l i E ad _ _ _ _ _ _ _ _ (by rw[he];exact xu)];have bU:gV (b+1000000000000000)=1000000000000000:=by unfold gV;split<;>omega
    have dx:gV (I+1000000000000000)=1000000000000000:=by unfold gV;split<;>omega
    simp only[he,nB,ow,qe,f1,f2,f3,f6,g1,cH,aj,av,Hk (aR:=(-1000000000000000:Int)) (E:=1000000000000000) (a:=a) (b:=b) (c:=c) (I:=I) u u u u u u,bq,bU,dD,dx,dc i u]
  |true=>
   refine ⟨0,b,0,I,?_,u,u,λl i E ad he x y z w=> ?_⟩
   ·simp only[k9,f1,f2,f3,f5,f6,av,g2,cK]
   ·rw[pQ l i E ad _ _ _ _ _ _ _ _ (by rw[he];exact xu)];have bU:gV (b+0)=b:=by unfold gV;split<;>omega
    have dx:gV (I+0)=I:=by unfold gV;split<;>omega
    simp only[he,nB,ow,qe,f1,f2,f3,f5,f6,g1,cK,aj,av,Hk (aR:=(-1000000000000000:Int)) (E:=0) (a:=a) (b:=b) (c:=c) (I:=I) u u u u u u,bq,bU,dD,dx,dc i u]
 ·
  have gR:jy 4 k v f t d n=(5,[],[],([],[],()),f,t,0,()):=rfl;rw[gR]at cI ⊢;obtain ⟨Oh,g1,g2⟩:=acN f (cI.from_ (.inr rfl)) t (cI.to_ (.inr rfl));have f1:(decide ((5:Int)=1))=false:=rfl;have f2:(decide ((5:Int)=2))=false:=rfl;have f3:(decide ((5:Int)=3))=false:=rfl;have f6:(decide ((5:Int)=6))=false:=rfl;have bq:hI (a+ -1000000000000000)=0:=by unfold hI;split<;>(try split)<;>omega
  have dD:hI (c+ -1000000000000000)=0:=by unfold hI;split<;>(try split)<;>omega
  cases Oh with
  |false=>
   refine ⟨0,1000000000000000,0,1000000000000000,?_,u,u,λl i E ad he x y z w=> ?_⟩
   ·simp only[k9,f1,f2,f3,f6,av,g2,cH,aj]
   ·rw[pQ l i E ad _ _ _ _ _ _ _ _ (by rw[he];exact xu)];have bU:gV (b+1000000000000000)=1000000000000000:=by unfold gV;split<;>omega
    have dx:gV (I+1000000000000000)=1000000000000000:=by unfold gV;split<;>omega
    simp only[he,nB,ow,qe,f1,f2,f3,f6,g1,cH,aj,av,Hk (aR:=(-1000000000000000:Int)) (E:=1000000000000000) (a:=a) (b:=b) (c:=c) (I:=I) u u u u u u,bq,bU,dD,dx,dc i u]
  |true=>
   have Tt:i64.wrap (b+b)=b+b:=cQ u;have azf:i64.wrap (I+I)=I+I:=cQ u;refine ⟨0,(if b+b<1000000000000000 then b+b else 1000000000000000),0,(if I+I<1000000000000000 then I+I else 1000000000000000),?_,by split<;>omega,by split<;>omega,λl i E ad he x y z w=> ?_⟩
   ·simp only[k9,f1,f2,f3,f6,av,g2,cK,cf,aj,rG,Tt,azf]
   ·rw[pQ l i E ad _ _ _ _ _ _ _ _ (by rw[he];exact xu)];have bU:gV (b+b)=(if b+b<1000000000000000 then b+b else 1000000000000000):=by unfold gV;split<;>split<;>omega
    have dx:gV (I+I)=(if I+I<1000000000000000 then I+I else 1000000000000000):=by unfold gV;split<;>split<;>omega
    simp only[he,nB,ow,qe,f1,f2,f3,f6,g1,cK,cf,aj,av,BN (aR:=(-1000000000000000:Int)) (E:=b) (a:=a) (b:=b) c I u u u u,BO (aR:=(-1000000000000000:Int)) (E:=I) (c:=c) (I:=I) 0 (if b+b<1000000000000000 then b+b else 1000000000000000) u u u u,bq,bU,dD,dx,dc i u]
 ·
  have gR:jy 5 k v f t d n=(6,[],[],d,[],[],n,()):=rfl;rw[gR]at cI ⊢;have f1:(decide ((6:Int)=1))=false:=rfl;have f2:(decide ((6:Int)=2))=false:=rfl;have f3:(decide ((6:Int)=3))=false:=rfl;refine ⟨a,b,c,I,?_,q,G,λl i E ad he x y z w=> ?_⟩
  ·simp only[k9,f1,f2,cf,aj,av]
  ·rw[pQ l i E ad _ _ _ _ _ _ _ _ (by rw[he];exact xu)];simp only[he,nB,ow,qe,f1,f2,f3,cf,aj,av,dc i u]
def o8 (x:Int):Int:=if x<1000000000000000 then x else 1000000000000000
def xM (d t:eV):eV:=((o8 (d.1.1+t.1.1),(o8 (d.1.2.1+t.1.2.1),())),((o8 (d.2.1.1+t.2.1.1),(o8 (d.2.1.2.1+t.2.1.2.1),())),()))
theorem akL {d t:eV} (af:jR d) (aX:jR t):jR (xM d t):=by
 obtain ⟨⟨dr,a2,a3⟩,a4,a5,om⟩:=af;obtain ⟨⟨b1,b2,b3⟩,hH,hO,j4⟩:=aX;refine ⟨⟨?_,?_,?_⟩,?_,?_,?_⟩<;>simp only[xM,o8]
 ·split<;>omega
 ·split<;>split<;>omega
 ·split<;>omega
 ·split<;>omega
 ·split<;>split<;>omega
 ·split<;>omega
theorem ajZ {d t:eV} (af:jR d) (aX:jR t):AN (d,t,())=some (xM d t,()):=by obtain ⟨⟨dr,a2,a3⟩,a4,a5,om⟩:=af;obtain ⟨⟨b1,b2,b3⟩,hH,hO,j4⟩:=aX;have M:i64.wrap (d.1.1+t.1.1)=d.1.1+t.1.1:=cQ u;have V:i64.wrap (d.1.2.1+t.1.2.1)=d.1.2.1+t.1.2.1:=cQ u;have aY:i64.wrap (d.2.1.1+t.2.1.1)=d.2.1.1+t.2.1.1:=cQ u;have bp:i64.wrap (d.2.1.2.1+t.2.1.2.1)=d.2.1.2.1+t.2.1.2.1:=cQ u;simp only[AN,M,V,aY,bp];rfl
theorem ak8 {x:Int} (h:0<=x):hI x=o8 x:=by unfold hI o8;split<;>(try split)<;>(try split)<;>omega
theorem ak7 {x:Int}:gV x=o8 x:=by unfold gV o8;split<;>split<;>omega
def o6 (d:eV) (m:bE):eV:=((k9 (d,m,())).map (·.1)).getD n1
theorem PC {d:eV} {m:bE} (af:jR d) (hm:gb m):k9 (d,m,())=some (o6 d m,())/\jR (o6 d m)/\ ∀(l:cD) (i:Nat) (E:i<l.length) (ad:l.length<=10^6) (he:l[i]=m) (x y z w:Int),
  tC (l,(l.length:Int),(i:Int),x,y,z,w,d.1.1,d.1.2.1,d.2.1.1,d.2.1.2.1,())=some (.inl (l,(l.length:Int),((i+1:Nat):Int),x,y,z,w,(o6 d m).1.1,(o6 d m).1.2.1,(o6 d m).2.1.1,(o6 d m).2.1.2.1,())):=by
 obtain ⟨⟨a,b,kV⟩,⟨c,I,pG⟩,rW⟩:=d;obtain ⟨bt,bZ,eF,lI,q,G,W,aC⟩:=alR hm a b c I af.1 af.2;have e:o6 ((a,(b,())),((c,(I,())),())) m=((bt,(bZ,())),((eF,(lI,())),())):=by unfold o6;rw[q];rfl
 rw[e];exact ⟨q,⟨G,W⟩,aC⟩
theorem atQ {n:cz} (bW:n.2.2.1≠[]) (af: ∀d∈n.2.2.2.1,jR d) (qc:n.2.2.2.1.length<=1000) (L: ∀m∈n.2.2.2.2.1,gb m) (vo:n.2.2.2.2.1.length<=1000):
  ∃d,abs (n,())=some (d,())/\na (n,())=some (d,())/\jR d:=by
 have ch:(decide ((((n.2.2.1.length):Int):Int)=(0:Int)))=false:=bh (by have:=List.length_pos_iff.2 bW;omega)
 obtain ⟨S,vm⟩: ∃S,n.2.2.2.1=S:=⟨_,rfl⟩;obtain ⟨dP,lN⟩: ∃dP,n.2.2.2.2.1=dP:=⟨_,rfl⟩;rw[vm]at af qc;rw[lN]at L vo
 let F:Nat->eV:=λi=>(S.take i).foldl xM n1
 have fj: ∀i,(E:i<S.length)->F (i+1)=xM (F i) S[i]:=λi E=>by show (S.take (i+1)).foldl xM n1=_;rw[eH E,List.foldl_append];rfl
 have Q8: ∀i,i<=S.length->jR (F i):=by
  intro i
  induction i with
  |zero=>
   intro _;show jR n1;exact ⟨⟨Int.le_refl _,Int.le_refl _,fc⟩,Int.le_refl _,Int.le_refl _,fc⟩
  |succ i aO=>intro E;rw[fj i u];exact akL (aO u) (af _ (dJ u))
 let hh:Nat->eV:=λi=>(dP.take i).foldl o6 (F S.length)
 have c8: ∀i,(E:i<dP.length)->hh (i+1)=o6 (hh i) dP[i]:=λi E=>by show (dP.take (i+1)).foldl o6 _=_;rw[eH E,List.foldl_append];rfl
 have Q9: ∀i,i<=dP.length->jR (hh i):=by
  intro i
  induction i with
  |zero=>intro _;exact Q8 _ (ca _)
  |succ i aO=>intro E;rw[c8 i u];exact (PC (aO u) (L _ (dJ u))).2.1
 have g1:NX (S,(S.length:Int),0,n,0,0,0,0,0,0,0,0,())=some (.inl (n,0,0,0,0,(F S.length).1.1,(F S.length).1.2.1,(F S.length).2.1.1,(F S.length).2.1.2.1,())):=by
  obtain ⟨z,g1,rfl⟩:=dG (b:=EI) (λi (s:eV)=>(S,(S.length:Int),(i:Int),n,0,0,0,0,s.1.1,s.1.2.1,s.2.1.1,s.2.1.2.1,())) S.length (λi s=>s=F i) (λz=>z=.inl (n,0,0,0,0,(F S.length).1.1,(F S.length).1.2.1,(F S.length).2.1.1,(F S.length).2.1.2.1,())) u
   (λi E s aP=>by left;subst aP;obtain ⟨⟨dr,a2,a3⟩,a4,a5,om⟩:=Q8 i u;obtain ⟨⟨b1,b2,b3⟩,hH,hO,j4⟩:=af _ (dJ E);have M:=e5 (i:=i) (l:=S) u;have V:=dZ i;have aY:=e7 i u;have bp:=BN (aR:=S[i].1.1) (E:=S[i].1.2.1) (a:=(F i).1.1) (b:=(F i).1.2.1) (F i).2.1.1 (F i).2.1.2.1 u u u u;have cV:=BO (aR:=S[i].2.1.1) (E:=S[i].2.1.2.1) (c:=(F i).2.1.1) (I:=(F i).2.1.2.1) (o8 ((F i).1.1+S[i].1.1)) (o8 ((F i).1.2.1+S[i].1.2.1)) u u u u;rw[ak8 u,ak7]at bp cV;refine ⟨F (i+1),rfl,?_⟩;rw[fj i E];simp only[EI,M,V,aj,bN,bI,b5 E,bp,cV,aY];rfl)
   (λs aP=>by subst aP;have M:=fE S;exact ⟨_,rfl,by simp only[EI,M,av]⟩) n1 rfl
  exact g1
 have g2:FN (0,n,0,0,0,0,n1,())=some (.inl (n,0,0,0,0,F S.length,())):=by
  obtain ⟨z,g1,rfl⟩:=dG (b:=ts) (λi (s:eV)=>((i:Int),n,0,0,0,0,s,())) S.length (λi s=>s=F i) (λz=>z=.inl (n,0,0,0,0,F S.length,())) u
   (λi E s aP=>by left;subst aP;have M:=e5 (i:=i) (l:=S) u;have V:=dZ i;have aY:=e7 i u;refine ⟨F (i+1),rfl,?_⟩;simp only[ts,vm,M,V,aj,bN,bI,b5 E,ajZ (Q8 i u) (af _ (dJ E)),aY,fj i E])
   (λs aP=>by subst aP;have M:=fE S;exact ⟨_,rfl,by simp only[ts,vm,M,av]⟩) n1 rfl
  exact g1
 have g3:N9 (dP,(dP.length:Int),0,0,0,0,0,(F S.length).1.1,(F S.length).1.2.1,(F S.length).2.1.1,(F S.length).2.1.2.1,())=some (.inl (0,0,0,0,(hh dP.length).1.1,(hh dP.length).1.2.1,(hh dP.length).2.1.1,(hh dP.length).2.1.2.1,())):=by
  obtain ⟨z,g1,rfl⟩:=dG (b:=tC) (λi (s:eV)=>(dP,(dP.length:Int),(i:Int),0,0,0,0,s.1.1,s.1.2.1,s.2.1.1,s.2.1.2.1,())) dP.length (λi s=>s=hh i) (λz=>z=.inl (0,0,0,0,(hh dP.length).1.1,(hh dP.length).1.2.1,(hh dP.length).2.1.1,(hh dP.length).2.1.2.1,())) u
   (λi E s aP=>by left;subst aP;have h:=(PC (Q9 i u) (L _ (dJ E))).2.2 dP i E u rfl 0 0 0 0;refine ⟨hh (i+1),rfl,?_⟩;rw[c8 i E];exact h)
   (λs aP=>by subst aP;have M:=fE dP;exact ⟨_,rfl,by simp only[tC,M,av]⟩) (F S.length) rfl
  exact g1
 have g4:FO (0,n,0,0,0,0,F S.length,())=some (.inl (0,0,0,0,hh dP.length,())):=by
  obtain ⟨z,g1,rfl⟩:=dG (b:=tt) (λi (s:eV)=>((i:Int),n,0,0,0,0,s,())) dP.length (λi s=>s=hh i) (λz=>z=.inl (0,0,0,0,hh dP.length,())) u
   (λi E s aP=>by left;subst aP;have M:=e5 (i:=i) (l:=dP) u;have V:=dZ i;have aY:=e7 i u;refine ⟨hh (i+1),rfl,?_⟩;simp only[tt,lN,M,V,aj,bN,bI,b5 E,(PC (Q9 i u) (L _ (dJ E))).1,aY,c8 i E])
   (λs aP=>by subst aP;have M:=fE dP;exact ⟨_,rfl,by simp only[tt,lN,M,av]⟩) (F S.length) rfl
  exact g1
 refine ⟨hh dP.length,?_,?_,Q9 _ (ca _)⟩
 ·simp only[abs,ch,av,vm,g1,lN,g3]
 ·simp only[na,ch,av,g2,g4]
abbrev bT:cp->N:=λp=>p.1
theorem adS (p:cp): ∀t:ak,cP bT t->cP bT (ins p t)
 |[],_=>List.pairwise_singleton _ _
 |x::t,h=>by
  unfold ins;cases L:Op.bytesLess x.1 p.1 with
  |true=>
   rw[aj];refine List.pairwise_cons.2 ⟨λy bu=> ?_,adS p t h.tail⟩;rcases PN p y t bu with rfl |bu
   ·exact L
   ·exact h.head y bu
  |false=>
   rw[av];refine List.pairwise_cons.2 ⟨λy bu=> ?_,List.Pairwise.filter _ h⟩;obtain ⟨q,G⟩:=e8.1 bu;have ct:y.1≠p.1:=by simpa using G
   have te:Op.bytesLess y.1 x.1=false:=by
    rcases fe.1 q with rfl |q
    ·exact iD _
    ·exact j6 (h.head y q)
   show Op.bytesLess p.1 y.1=true;rcases h0 p.1 y.1 with W |W |W
   ·exact W
   ·exact absurd W.symm ct
   ·
    rcases h0 p.1 x.1 with aC |aC |aC
    ·rw[gN W aC]at te;cases te
    ·rw[aC]at W;rw[W]at te;cases te
    ·rw[aC]at L;cases L
theorem acn (l:l6):cP bT (mS l):=by
 have key: ∀(l:l6) (t:ak),cP bT t->cP bT (l.foldl (λt x=>ins (oX x) t) t):=by
  intro l
  induction l with
  |nil=>intro t h;exact h
  |cons x l aO=>intro t h;exact aO _ (adS _ _ h)
 exact key l [] List.Pairwise.nil
theorem zQ (d:aK) (k:N):pE (d,k,())=some (cl d k,()):=by
 simp only[pE,cl];cases q:Op.bytesLess k d.1
 ·cases G:decide (d.2.1=[])
  ·simp only[cH,aj,Bool.true_and,Bool.false_or]
  ·simp only[cH,cK,aj,av,Bool.true_and,Bool.true_or]
 ·simp only[cK,av,Bool.false_and]
structure cT (t:ak):Prop where
 len:t.length<=1000
 srt:cP bT t
 key: ∀p∈t,1<=p.1.length/\p.1.length<=65535
 val: ∀p∈t,p.2.1.length<=64
 stamp: ∀p∈t,0<=p.2.2.1/\p.2.2.1<=1000000000
 chg: ∀p∈t,K3 p
theorem adq (n:Int):(AB n).length<=4:=by
 unfold AB;obtain ⟨m,hm⟩: ∃m,(n%4).toNat=m:=⟨_,rfl⟩;have:m<4:=u;rw[hm]
 match m,this with
 |0,_=>decide
 |1,_=>decide
 |2,_=>decide
 |3,_=>decide
theorem akc (l:l6) (h: ∀x∈l,rN x) (ad:l.length<=1000):cT (mS l):=by
 have hm: ∀p∈mS l,∃y,rN y/\p=oX y:=λp aT=>by obtain ⟨y,bu,e⟩:=OV l p aT;exact ⟨y,h y bu,e⟩
 refine ⟨Nat.le_trans (A4 l) ad,acn l,λp aT=> ?_,λp aT=> ?_,λp aT=> ?_,λp aT=> ?_⟩
 ·obtain ⟨y,bu,rfl⟩:=hm p aT;obtain ⟨-,a6,cq⟩:=OJ y.1 bu.1.1 bu.1.2;show 1<=(l3 y.1).length/\(l3 y.1).length<=65535;omega
 ·obtain ⟨y,bu,rfl⟩:=hm p aT;have:=adq y.2.1;show (AB y.2.1).length<=64;omega
 ·obtain ⟨y,bu,rfl⟩:=hm p aT;show 0<=y.2.2.1%4/\y.2.2.1%4<=1000000000;omega
 ·obtain ⟨y,bu,rfl⟩:=hm p aT;have c:=alv y.1 bu.1.1 bu.1.2;have:=adq y.2.1;exact ⟨c.1,c.2,by show (AB y.2.1).length<=64;omega⟩
theorem cT.inS {t:ak} (h:cT t) (d:aK):cT (inS d t):=
 ⟨Nat.le_trans (sj d t) h.len,List.Pairwise.filter _ h.srt,λp aT=>h.key p (e8.1 aT).1,λp aT=>h.val p (e8.1 aT).1,λp aT=>h.stamp p (e8.1 aT).1,λp aT=>h.chg p (e8.1 aT).1⟩
theorem ZF (t:ak) (af:cP bT t) (ad:t.length<=10^6):F3 (t,())=some (true,()):=by
 obtain ⟨z,q,rfl⟩:=dG (b:=D2) (λi (_:H)=>(t,((i+1:Nat):Int),())) (t.length-1) (λ_ _=>True) (λz=>z=.inr ()) u
  (λi E _ _=>by
   left;have ch:i64.wrap (((i+1:Nat):Int)-1)=(i:Int):=by rw[cQ u];omega
   have M:bG (((i+1:Nat):Int)<((t.length):Int)):=aW u;have V:=dZ i;have aY:=e5 (i:=i) (l:=t) u;have bp:bG ((0:Int)<=((i+1:Nat):Int)):=aW u;have cV:i64.wrap (((i+1:Nat):Int)+1)=((i+1+1:Nat):Int):=by rw[cQ u];omega
   have iE:i<t.length:=u;have e3:i+1<t.length:=u;have da:Op.bytesLess t[i].1 t[i+1].1=true:=List.pairwise_iff_getElem.1 af _ _ iE e3 u;exact ⟨(),trivial,by simp only[D2,ch,M,V,aY,bp,aj,av,bN,bI,b5 iE,b5 e3,da,cK,cV]⟩)
  (λ_ _=>by have M:(decide (((t.length-1+1:Nat):Int)<((t.length):Int)))=false:=bh u;exact ⟨_,rfl,by simp only[D2,M,av]⟩) () trivial
 have dt:Mm (t,(1:Int),())=some (.inr ()):=q;simp only[F3,dt]
theorem abm {p:cp} (q:1<=p.1.length/\p.1.length<=65535) (G:p.2.1.length<=64) (W:0<=p.2.2.1/\p.2.2.1<=1000000000):KF (p,())=some (true,()):=by have M:bG ((((p.1.length):Int):Int)>=(1:Int)):=aW u;have V:bG ((((p.1.length):Int):Int)<=(65535:Int)):=aW u;have aY:bG ((((p.2.1.length):Int):Int)<=(64:Int)):=aW u;have bp:bG ((p.2.2.1:Int)>=(0:Int)):=aW W.1;have cV:bG ((p.2.2.1:Int)<=(1000000000:Int)):=aW W.2;simp only[KF,M,V,aY,bp,cV,aj]
theorem as6 {t:ak} (aX:cT t) (d:aK):tH ((inS d t,[],[],[],[],()),d,())=some (true,()):=by
 have b9:=aX.inS d;obtain ⟨T,aeU⟩: ∃T,inS d t=T:=⟨_,rfl⟩;have avy: ∀p∈T,cl d p.1=true:=λp aT=>by rw[<-aeU]at aT;exact (e8.1 aT).2
 rw[aeU]at b9 ⊢;obtain ⟨z,q,rfl⟩:=dG (b:=sg) (λi (_:H)=>(T,(T.length:Int),(i:Int),d,())) T.length (λ_ _=>True) (λz=>z=.inr (d,())) (by have:=b9.len;omega)
  (λi E _ _=>by left;have ad:=b9.len;have M:=e5 (i:=i) (l:=T) u;have V:=dZ i;have aY:=e7 i u;have hm:=dJ E;have bp:=abm (b9.key _ hm) (b9.val _ hm) (b9.stamp _ hm);exact ⟨(),trivial,by simp only[sg,M,V,aj,av,bN,bI,b5 E,KU,bp,cK,cH,zQ,avy _ hm,aY]⟩)
  (λ_ _=>by have M:=fE T;exact ⟨_,rfl,by simp only[sg,M,av]⟩) () trivial
 have dt:HW (T,(T.length:Int),0,d,())=some (.inr (d,())):=q;have G:=ZF T b9.srt (by have:=b9.len;omega);have ch:bG ((((List.length ([]:cC)):Int):Int)=(0:Int)):=rfl;have M:bG (i64.wrap (i64.wrap (((List.length ([]:bo)):Int)+((List.length ([]:hz)):Int))+((List.length ([]:cD)):Int))=(0:Int)):=rfl;have V:(decide ((-1:Int)>=(0:Int)))=false:=rfl;simp only[tH,ch,M,aj,G,HK,HL,dt,V,cH]
theorem pA: ∀(t:az) (x:t.den),az.eqb t x x=true
 | .bool,x=>by simp[az.eqb]
 | .int _,x=>by simp[az.eqb]
 | .str,x=>by simp[az.eqb]
 | .pair a b,x=>by simp[az.eqb,pA a,pA b]
 | .list _,_=>rfl
 | .unit,_=>rfl
 | .opq,_=>rfl
theorem aro {d:aK} (h:mD d):kI (d,())=some (false,()):=by
 unfold kI;rcases h with h |h
 ·simp only[h,cf,cK,av]
 ·have G:=j6 h;have W: ¬d.2.1=d.1:=λe=>by rw[e,iD]at h;cases h
  simp only[G,bh W,Bool.or_false];cases (!decide (d.2.1=([]:N)))<;>rfl
theorem xL {a b c:Int} (q:b<=a) (G:a<=c):o4 (a,b,c,())=some (true,()):=by simp only[o4,aW q,aW G,aj]
theorem adr (a b:N):sz (a,b,())=some (bL a b,()):=by
 unfold bL;by_cases h:b.length<=a.length
 ·have bj:((a.length:Int)>=(b.length:Int)):=u;have ba:((0:Int)<=(b.length:Int)):=u;have c3:((b.length:Int)<=(a.length:Int)):=u;simp only[sz,bj,ba,c3,aW h,aW,aj,bN,bI,Bool.true_and,List.drop_zero,Int.toNat_zero]
 ·have bj: ¬((a.length:Int)>=(b.length:Int)):=u;simp only[sz,bj,bh h,bh,av,Bool.false_and,not_false_eq_true]
theorem abN: ∀p∈fb,1<=p.length/\p.length<=200:=fc
theorem acQ {f t:N} (aM:f∈fb) (aX:t∈fb) (h:bL f t=false/\bL t f=false):rT (f,t,())=some (true,()):=by obtain ⟨dr,a2⟩:=abN f aM;obtain ⟨b1,b2⟩:=abN t aX;have M:=xL (a:=(f.length:Int)) (b:=1) (c:=200) u u;have V:=xL (a:=(t.length:Int)) (b:=1) (c:=200) u u;simp only[rT,M,V,aj,yO,adr,h.1,h.2,cH]
theorem adN {d:aK} (h:mD d) (q:d.1.length<=200) (G:d.2.1.length<=200):y6 (d,())=some (true,()):=by have e:bG ((if ((d.1.length:Int))<((d.2.1.length:Int)) then ((d.2.1.length):Int) else ((d.1.length):Int))<=(65535:Int)):=aW (by split<;>omega);simp only[y6,aro h,cH,aj,e]
theorem uf: ∀k∈jK,1<=k.length/\k.length<=100:=by have hlen:jK.all (λk=>decide (1<=k.length)&&decide (k.length<=100))=true:=aD;intro k ag;have:=fD.1 hlen k ag;simpa using this
theorem xx {k:N} (h:k∈jK):qw (k,())=some ((k,(k++[0],())),())/\oO (k,())=some ((k,(k++[0],())),()):=by have:=(uf k h).2;have e:bG (k.length+List.length ([0]:N)<=bC):=aW (by rw[ez];simp;omega);exact ⟨by simp only[qw,e,aj],by simp only[oO,e,aj]⟩
theorem Bb {m:bE} (hm:gb m):h1 (m,())=some (true,())/\ ∃R cU:aw,rS (m,())=some (R,())/\nP (m,())=some (R,())/\qk (m,())=some (cU,())/\lJ (m,())=some (cU,())/\R.length<=2/\cU.length<=2:=by
 have cI:=hm.ok;obtain ⟨s,k,v,f,t,d,n,rfl,aP,aN,lV,rk⟩:=hm.form;have Cb:s=0\/s=1\/s=2\/s=3\/s=4\/s=5:=u;rcases Cb with rfl |rfl |rfl |rfl |rfl |rfl
 ·have gR:jy 0 k v f t d n=(1,k,v,([],[],()),[],[],n,()):=rfl;rw[gR]at cI ⊢;have ag:k∈jK:=cI.key (.inl rfl);have a8:v.length<=10:=cI.val rfl;have M:=xL (a:=(k.length:Int)) (b:=1) (c:=65535) (by have:=(uf k ag).1;omega) (by have:=(uf k ag).2;omega);have V:=xL (a:=n) (b:=0) (c:=1000000000) u u;have aY:bG ((((v.length):Int):Int)<=(64:Int)):=aW u;have f4:(decide ((1:Int)=4))=false:=rfl;have f5:(decide ((1:Int)=5))=false:=rfl;have f6:(decide ((1:Int)=6))=false:=rfl;exact ⟨by simp only[h1,v8,cf,aj,M,aY,V,KT,pA],[],[(k,(k++[0],()))],by simp only[rS,MS,cf,aj],by simp only[nP,rA,f4,f5,f6,av],by simp only[qk,Ms,cf,aj,(xx ag).1],by simp only[lJ,ou,cf,aj,(xx ag).2],aU,aU⟩
 ·have gR:jy 1 k v f t d n=(2,k,[],([],[],()),[],[],0,()):=rfl;rw[gR]at cI ⊢;have ag:k∈jK:=cI.key (.inr rfl);have M:=xL (a:=(k.length:Int)) (b:=1) (c:=65535) (by have:=(uf k ag).1;omega) (by have:=(uf k ag).2;omega);have f1:(decide ((2:Int)=1))=false:=rfl;have f4:(decide ((2:Int)=4))=false:=rfl;have f5:(decide ((2:Int)=5))=false:=rfl;have f6:(decide ((2:Int)=6))=false:=rfl;exact ⟨by simp only[h1,Eb,f1,cf,aj,av,M,KS,pA],[],[(k,(k++[0],()))],by simp only[rS,MR,f1,cf,aj,av],by simp only[nP,rA,f4,f5,f6,av],by simp only[qk,Mp,f1,cf,aj,av,(xx ag).1],by simp only[lJ,ou,f1,cf,aj,av,(xx ag).2],aU,aU⟩
 ·have gR:jy 2 k v f t d n=(3,[],[],d,[],[],0,()):=rfl;rw[gR]at cI ⊢;have af:mD d:=cI.span (.inl rfl);have M:=adN af lV rk;have f1:(decide ((3:Int)=1))=false:=rfl;have f2:(decide ((3:Int)=2))=false:=rfl;have f4:(decide ((3:Int)=4))=false:=rfl;have f5:(decide ((3:Int)=5))=false:=rfl;have f6:(decide ((3:Int)=6))=false:=rfl;exact ⟨by simp only[h1,DQ,f1,f2,cf,aj,av,M,KB,pA],[],[d],by simp only[rS,Mq,f1,f2,cf,aj,av],by simp only[nP,rA,f4,f5,f6,av],by simp only[qk,TZ,f1,f2,cf,aj,av],by simp only[lJ,ou,f1,f2,f4,f5,av],aU,aU⟩
 ·have gR:jy 3 k v f t d n=(4,[],[],([],[],()),f,t,0,()):=rfl;rw[gR]at cI ⊢;have aM:=cI.from_ (.inl rfl);have aX:=cI.to_ (.inl rfl);have M:=acQ aM aX (cI.apart (.inl rfl));obtain ⟨fJ,fT,-⟩:=mC f (lw f aM);obtain ⟨ah,aS,-⟩:=mC t (lw t aX);have f1:(decide ((4:Int)=1))=false:=rfl;have f2:(decide ((4:Int)=2))=false:=rfl;have f3:(decide ((4:Int)=3))=false:=rfl;exact ⟨by simp only[h1,wt,f1,f2,f3,cf,aj,av,M,KC,pA],[dW f],[dW f,dW t],by simp only[rS,Mr,f1,f2,f3,cf,aj,av,fJ],by simp only[nP,rA,cf,aj,fT],by simp only[qk,T0,f1,f2,f3,cf,aj,av,fJ,ah],by simp only[lJ,ou,f1,f2,cf,aj,av,fT,aS],aU,aU⟩
 ·have gR:jy 4 k v f t d n=(5,[],[],([],[],()),f,t,0,()):=rfl;rw[gR]at cI ⊢;have aM:=cI.from_ (.inr rfl);have aX:=cI.to_ (.inr rfl);have M:=acQ aM aX (cI.apart (.inr rfl));obtain ⟨fJ,fT,-⟩:=mC f (lw f aM);obtain ⟨ah,aS,-⟩:=mC t (lw t aX);have f1:(decide ((5:Int)=1))=false:=rfl;have f2:(decide ((5:Int)=2))=false:=rfl;have f3:(decide ((5:Int)=3))=false:=rfl;have f4:(decide ((5:Int)=4))=false:=rfl;exact ⟨by simp only[h1,J4,f1,f2,f3,f4,cf,aj,av,M,wl,pA],[dW f],[dW t],by simp only[rS,TY,f1,f2,f3,f4,cf,aj,av,fJ],by simp only[nP,rA,f4,cf,aj,av,fT],by simp only[qk,TJ,f1,f2,f3,f4,cf,aj,av,ah],by simp only[lJ,ou,f1,f2,f4,cf,aj,av,aS],aU,aU⟩
 ·have gR:jy 5 k v f t d n=(6,[],[],d,[],[],n,()):=rfl;rw[gR]at cI ⊢;have af:mD d:=cI.span (.inr rfl);have M:=adN af lV rk;have V:=xL (a:=n) (b:=0) (c:=1000000000) u u;have f1:(decide ((6:Int)=1))=false:=rfl;have f2:(decide ((6:Int)=2))=false:=rfl;have f3:(decide ((6:Int)=3))=false:=rfl;have f4:(decide ((6:Int)=4))=false:=rfl;have f5:(decide ((6:Int)=5))=false:=rfl;exact ⟨by simp only[h1,y8,f1,f2,f3,f4,f5,cf,aj,av,M,V,Kr,pA],[d],[d],by simp only[rS,T1,f1,f2,f3,f4,f5,cf,aj,av],by simp only[nP,rA,f4,f5,cf,aj,av],by simp only[qk,TK,f1,f2,f3,f4,f5,cf,aj,av],by simp only[lJ,ou,f1,f2,f4,f5,av],aU,aU⟩
theorem asE {d x:aK} (h:mh (d,x,())=some (true,())):pt (d,x,())=some (true,()):=by
 have jc: ∀y:aK,lK (y,())=kI (y,()):=λy=>rfl
 obtain ⟨ex,hex⟩: ∃e,lK (x,())=some (e,()):=xc x;obtain ⟨es,ae9⟩: ∃e,lK (d,())=some (e,()):=xc d;have CG:=(jc x).symm.trans hex;cases ex with
 |true=>simp only[pt,CG,cK,av]
 |false=>
  cases es with
  |true=>simp only[mh,hex,ae9,cH,cK,aj,av]at h;cases h
  |false=>
   simp only[mh,hex,ae9,cH,aj]at h;cases ft:(Op.bytesLess d.1 x.1||decide ((d.1:N)=x.1)) with
   |false=>rw[ft]at h;cases h
   |true=>
    rw[ft]at h;simp only[aj]at h;have IM:Op.bytesLess x.1 d.1=false:=by
     rcases Bool.or_eq_true_iff.1 ft with q |q
     ·exact j6 q
     ·rw[of_decide_eq_true q];exact iD _
    by_cases af:d.2.1=[]
    ·have bg:cl d x.1=true:=by unfold cl;rw[IM,aW af];rfl
     by_cases an:x.2.1=[]
     ·have M:bG ((d.2.1:N)=x.2.1):=aW (by rw[af,an]);simp only[pt,CG,cH,aj,zQ,bg,pZ,M];rfl
     ·have M:(decide ((d.2.1:N)=x.2.1))=false:=bh (by rw[af];exact λh=>an h.symm);simp only[pt,CG,cH,aj,av,zQ,bg,pZ,M,aW af];rfl
    ·by_cases an:x.2.1=[]
     ·simp only[qn,bh af,cH,aj,aW an,cK,av]at h;cases h
     ·simp only[qn,bh af,bh an,cH,aj]at h;have jr:Op.bytesLess d.2.1 x.2.1=false:=by
       cases L:Op.bytesLess d.2.1 x.2.1
       ·rfl
       ·rw[L]at h;cases h
      have ct:Op.bytesLess x.1 x.2.1=true:=by
       simp only[lK,bh an,cH,aj]at hex;have he:(Op.bytesLess x.2.1 x.1||decide ((x.2.1:N)=x.1))=false:=congrArg Prod.fst (eY hex);rw[Bool.or_eq_false_iff]at he;rcases h0 x.1 x.2.1 with q |q |q
       ·exact q
       ·exact absurd q.symm (of_decide_eq_false he.2)
       ·rw[he.1]at q;cases q
      have vG:Op.bytesLess x.1 d.2.1=true:=by
       rcases h0 x.2.1 d.2.1 with q |q |q
       ·exact gN ct q
       ·rw[<-q];exact ct
       ·rw[jr]at q;cases q
      have bg:cl d x.1=true:=by unfold cl;rw[IM,vG];simp
      have H9: ∀y:N,i9 (y,())=some (false,()):=λy=>by simp[i9]
      by_cases he:d.2.1=x.2.1
      ·simp only[pt,CG,cH,aj,zQ,bg,pZ,aW he];rfl
      ·simp only[pt,CG,cH,aj,av,zQ,bg,pZ,bh he,bh af,bh an,Dl,H9,jr,Bool.false_or];rfl
theorem aa4 {m:bE} {d:aK} {R cU:aw} (kq:nP (m,())=some (R,())) (kr:lJ (m,())=some (cU,())) (ar:R.length<=2) (hw:cU.length<=2) (h:jN (m,d,())=some (true,())): ∀x∈R++cU,mh (d,x,())=some (true,()):=by
 have M:bG ((List.length ([]:List (aK))+R.length)*32<=bC):=aW (by rw[ez];simp;omega);have V:bG ((List.length (([]:List (aK))++R)+cU.length)*32<=bC):=aW (by rw[ez];simp;omega);obtain ⟨l,ad⟩: ∃l,([]++R)++cU=l:=⟨_,rfl⟩;have RF:l.length<=4:=by rw[<-ad];simp;omega
 have im:R++cU=l:=by rw[<-ad];rfl
 obtain ⟨z,q,G⟩:=dG (b:=pr) (λi (_:H)=>((i:Int),d,l,())) l.length (λi _=> ∀j (al:j<l.length),j<i->mh (d,l[j],())=some (true,())) (λz=>z=.inl (false,())\/(z=.inr ()/\ ∀x∈l,mh (d,x,())=some (true,()))) u
  (λi E _ al=>by
   have M:=e5 (i:=i) (l:=l) u;have V:=dZ i;have aY:=e7 i u;obtain ⟨r,ar⟩:=OH d l[i];simp only[pr,M,V,aj,bN,bI,b5 E,ar,aY];cases r
   ·exact .inr ⟨_,.inl rfl,rfl⟩
   ·refine .inl ⟨(),λj hl bw=> ?_,rfl⟩;rcases Nat.lt_or_ge j i with h |h
    ·exact al j hl h
    ·have:j=i:=u;subst this;exact ar)
  (λ_ al=>by have M:=fE l;refine ⟨_,.inr ⟨rfl,λx an=> ?_⟩,by simp only[pr,M,av]⟩;obtain ⟨j,hl,rfl⟩:=List.mem_iff_getElem.1 an;exact al j hl hl) () (λj al h=>u)
 have dt:Ei (0,d,l,())=some z:=q;rcases G with rfl |⟨rfl,W⟩
 ·simp only[jN,kq,kr,M,V,aj,ad,dt]at h;cases h
 ·intro x an;rw[im]at an;exact W x an
theorem akl {m:bE} {d:aK} {R cU:aw} (kq:nP (m,())=some (R,())) (kr:lJ (m,())=some (cU,())) (ar:R.length<=2) (hw:cU.length<=2) (h:jN (m,d,())=some (true,())): ∀x∈R++cU,pt (d,x,())=some (true,()):=
 λx an=>asE (aa4 kq kr ar hw h x an)
theorem atB (l:aw) (d:aK) (ad:l.length<=1000) (h: ∀x∈l,pt (d,x,())=some (true,())):HU (l,d,())=some (false,d,()):=by
 obtain ⟨z,q,rfl⟩:=dG (b:=Cf) (λi (_:H)=>(l,(l.length:Int),(i:Int),d,())) l.length (λ_ _=>True) (λz=>z=.inr (d,())) u
  (λi E _ _=>by left;have M:=e5 (i:=i) (l:=l) u;have V:=dZ i;have aY:=e7 i u;exact ⟨(),trivial,by simp only[Cf,M,V,aj,av,bN,bI,b5 E,EC,h _ (dJ E),cK,aY]⟩)
  (λ_ _=>by have M:=fE l;exact ⟨_,rfl,by simp only[Cf,M,av]⟩) () trivial
 have dt:QM (l,(l.length:Int),0,d,())=some (.inr (d,())):=q;have V:(decide ((-1:Int)>=(0:Int)))=false:=rfl;simp only[HU,QU,dt,V]
theorem atC (l:aw) (d:aK) (ad:l.length<=1000) (h: ∀x∈l,pt (d,x,())=some (true,())):HV (l,d,())=some (false,l,d,()):=by
 obtain ⟨z,q,rfl⟩:=dG (b:=Cg) (λi (_:H)=>((l.length:Int),(i:Int),l,d,())) l.length (λ_ _=>True) (λz=>z=.inr (l,d,())) u
  (λi E _ _=>by left;have M:=e5 (i:=i) (l:=l) u;have V:=dZ i;have aY:=e7 i u;exact ⟨(),trivial,by simp only[Cg,M,V,aj,av,bN,bI,b5 E,EC,h _ (dJ E),cK,aY]⟩)
  (λ_ _=>by have M:=fE l;exact ⟨_,rfl,by simp only[Cg,M,av]⟩) () trivial
 have dt:Qr ((l.length:Int),0,l,d,())=some (.inr (l,d,())):=q;have V:(decide ((-1:Int)>=(0:Int)))=false:=rfl;simp only[HV,QV,dt,V]
theorem alr {m:bE} {d:aK} (hm:gb m) (ad:jN (m,d,())=some (true,())):KV (m,d,())=some (false,d,()):=by obtain ⟨v,R,cU,q,G,W,aC,bd,bD⟩:=Bb hm;have aV:=akl G aC bd bD ad;have kq:=atB R d u (λx an=>aV x (dn.2 (.inl an)));have kr:=atC cU d u (λx an=>aV x (dn.2 (.inr an)));simp only[KV,v,q,W,kq,kr,cK,cH,aj]
theorem ak5 (l:cD) (d:aK) (ad:l.length<=1000) (h: ∀m∈l,gb m/\jN (m,d,())=some (true,())):Ih (l,d,())=some (false,d,()):=by
 obtain ⟨z,q,rfl⟩:=dG (b:=B1) (λi (_:H)=>(l,(l.length:Int),(i:Int),d,())) l.length (λ_ _=>True) (λz=>z=.inr (d,())) u
  (λi E _ _=>by left;have M:=e5 (i:=i) (l:=l) u;have V:=dZ i;have aY:=e7 i u;obtain ⟨bj,ba⟩:=h _ (dJ E);exact ⟨(),trivial,by simp only[B1,M,V,aj,av,bN,bI,b5 E,alr bj ba,aY]⟩)
  (λ_ _=>by have M:=fE l;exact ⟨_,rfl,by simp only[B1,M,av]⟩) () trivial
 have dt:Q0 (l,(l.length:Int),0,d,())=some (.inr (d,())):=q;have V:(decide ((-1:Int)>=(0:Int)))=false:=rfl;simp only[Ih,io,dt,V]
theorem asu {s:eV} (h:jR s):KG (s,())=some (true,()):=by
 obtain ⟨⟨dr,a2,a3⟩,b1,b2,b3⟩:=h;obtain ⟨l,ad⟩: ∃l:List lW,[s.1,s.2.1]=l:=⟨_,rfl⟩;have ea: ∀r∈l,0<=r.1/\r.1<=r.2.1/\r.2.1<=1000000000000000:=by
  intro r ar;rw[<-ad]at ar;simp only[fe,List.not_mem_nil,or_false]at ar;rcases ar with rfl |rfl
  ·exact ⟨dr,a2,a3⟩
  ·exact ⟨b1,b2,b3⟩
 have RF:l.length=2:=by rw[<-ad];rfl
 obtain ⟨z,q,rfl⟩:=dG (b:=Dx) (λi (_:H)=>((l.length:Int),(i:Int),l,())) l.length (λ_ _=>True) (λz=>z=.inr ()) u
  (λi E _ _=>by left;have M:=e5 (i:=i) (l:=l) u;have V:=dZ i;have aY:=e7 i u;obtain ⟨bj,ba,c3⟩:=ea _ (dJ E);have bp:(decide (l[i].1<(0:Int)))=false:=bh u;have cV:(decide (l[i].1>l[i].2.1))=false:=bh u;have da:(decide (l[i].2.1>(1000000000000000:Int)))=false:=bh u;exact ⟨(),trivial,by simp only[Dx,M,V,aj,av,bN,bI,b5 E,bp,cV,da,cH,aY]⟩)
  (λ_ _=>by have M:=fE l;exact ⟨_,rfl,by simp only[Dx,M,av]⟩) () trivial
 have dt:TA ((l.length:Int),0,l,())=some (.inr ()):=q;simp only[KG,ad,dt]
def E4 (ps:bo) (d:aK):Prop:= ∀i (h:i<ps.length),Op.bytesLess (List.getD (d.1::ps) i []) ps[i]=true/\(d.2.1=[]\/Op.bytesLess ps[i] d.2.1=true)
theorem alh (ps:bo) (n:cz) (d:aK) (ad:ps.length<=1000) (h:E4 ps d):MU (d.1,ps,(ps.length:Int),0,n,d,())=some (.inr (n,d,())):=by
 obtain ⟨z,q,rfl⟩:=dG (b:=wa) (λi (_:H)=>(List.getD (d.1::ps) i [],ps,(ps.length:Int),(i:Int),n,d,())) ps.length (λ_ _=>True) (λz=>z=.inr (n,d,())) u
  (λi E _ _=>by
   left;have M:=e5 (i:=i) (l:=ps) u;have V:=dZ i;have aY:=e7 i u;obtain ⟨bj,ba⟩:=h i E;have bp:=j6 bj;have cV:(decide ((ps[i]:N)=List.getD (d.1::ps) i []))=false:=bh (λe=>by rw[<-e,iD]at bj;cases bj);have da:List.getD (d.1::ps) (i+1) []=ps[i]:=by show ps.getD i []=_;exact b5 E
   refine ⟨(),trivial,?_⟩;rw[da];rcases ba with ba |ba
   ·simp only[wa,M,V,aj,av,bN,bI,b5 E,bp,cV,Bool.or_false,cH,aW ba,cK,aY]
   ·cases ao:(!decide (d.2.1=([]:N)))
    ·simp only[wa,M,V,aj,av,bN,bI,b5 E,bp,cV,Bool.or_false,cH,ao,aY]
    ·simp only[wa,M,V,aj,av,bN,bI,b5 E,bp,cV,Bool.or_false,cH,ao,ba,cK,aY])
  (λ_ _=>by have M:=fE ps;exact ⟨_,rfl,by simp only[wa,M,av]⟩) () trivial
 exact q
theorem akC (ks:dB) (n:cz) (d:aK) (ad:ks.length<=1000) (ag: ∀k∈ks,k<4096) (af:n.2.2.2.1.length=ks.length) (E: ∀s∈n.2.2.2.1,jR s):MV (bJ ks,(ks.length:Int),0,n,d,())=some (.inr (n,d,())):=by
 obtain ⟨S,vm⟩: ∃S,n.2.2.2.1=S:=⟨_,rfl⟩;rw[vm]at af E;obtain ⟨z,q,rfl⟩:=dG (b:=Ee) (λi (_:H)=>(bJ ks,(ks.length:Int),(i:Int),n,d,())) ks.length (λ_ _=>True) (λz=>z=.inr (n,d,())) u
  (λi e3 _ _=>by left;have afn:i<S.length:=u;have M:bG (((i:Nat):Int)<((ks.length:Nat):Int)):=aW u;have aul:bG (((i:Nat):Int)<((List.length (bJ ks):Nat):Int)):=aW (by rw[fP];omega);have aum:bG (((i:Nat):Int)<((S.length:Nat):Int)):=aW u;have V:=dZ i;have aY:=e7 i u;have ku:=ag _ (dJ e3);have bp:(decide (((ks[i]:Nat):Int)<(0:Int)))=false:=bh u;have cV:(decide (((ks[i]:Nat):Int)>=(4096:Int)))=false:=bh u;exact ⟨(),trivial,by simp only[Ee,vm,M,aul,aum,V,aj,av,bN,bI,lf e3,b5 afn,bp,cV,cH,asu (E _ (dJ afn)),cK,aY]⟩)
  (λ_ _=>by have M:(decide (((ks.length:Nat):Int)<((ks.length:Nat):Int)))=false:=bh u;exact ⟨_,rfl,by simp only[Ee,M,av]⟩) () trivial
 exact q
theorem aa3 {piv:bo} {ks:dB} {sums:hz} {buf:cD} {d:aK} (q:ks.length=piv.length+1) (G:sums.length=ks.length) (m5:ks.length<=100) (aT:E4 piv d) (ag: ∀k∈ks,k<4096) (af: ∀s∈sums,jR s) (L: ∀m∈buf,gb m/\jN (m,d,())=some (true,())) (vo:buf.length<=100):
  tH (([],piv,bJ ks,sums,buf,()),d,())=some (true,()):=by
 have ch:(decide ((ks.length:Int)=(0:Int)))=false:=bh u;have M:(decide ((((List.length ([]:ak)):Int):Int)>(0:Int)))=false:=rfl;have V:bG ((((sums.length):Int):Int)=(ks.length:Int)):=aW u;have aY:i64.wrap ((ks.length:Int)-1)=(piv.length:Int):=by rw[cQ u];omega
 have bp:bG ((((piv.length):Int):Int)=(piv.length:Int)):=aW rfl;have g1:=alh piv ([],piv,bJ ks,sums,buf,()) d u aT;have g2:=akC ks ([],piv,bJ ks,sums,buf,()) d u ag G af;have g3:=ak5 buf d u L;have cV:((List.length (bJ ks):Nat):Int)=(ks.length:Int):=by rw[fP]
 simp only[tH,ch,M,V,aY,bp,av,cH,cK,aj,KE,g1,cV,g2,g3,cf]
theorem adW {P:bo} (hR:P.Pairwise λa b=>Op.bytesLess a b=true) (d:aK):E4 (cM P d) d:=by
 have hm:(cM P d).Pairwise λa b=>Op.bytesLess a b=true:=List.Pairwise.filter _ hR
 have aM: ∀k∈cM P d,Op.bytesLess d.1 k=true/\(d.2.1=[]\/Op.bytesLess k d.2.1=true):=by
  intro k ag;obtain ⟨-,G⟩:=e8.1 ag;simp only[bQ,eS,Bool.or_eq_false_iff,cl,Bool.or_eq_true_iff,dS,decide_eq_false_iff_not]at G;obtain ⟨⟨dr,a2⟩,a3,a4⟩:=G;refine ⟨?_,a4⟩;rcases h0 d.1 k with h |h |h
  ·exact h
  ·exact absurd h.symm a2
  ·rw[h]at dr;cases dr
 intro i E;refine ⟨?_,(aM _ (dJ E)).2⟩;cases i with
 |zero=>exact (aM _ (dJ E)).1
 |succ i=>
  show Op.bytesLess (List.getD (cM P d) i []) _=true;rw[b5 (show i<(cM P d).length by omega)];exact List.pairwise_iff_getElem.1 hm _ _ _ E u
def q1:List bo->aK->Bool
 |[],_=>true
 |P::aI,d=>(match rU (d,cM P d,()) with
   |some (l,_)=>decide (l=partsOf d (cM P d))
   |none=>false)&&(partsOf d (cM P d)).all (q1 aI)
theorem akx: ∀aI∈nn,q1 aI b6=true:=by have h:nn.all (λaI=>q1 aI b6)=true:=aD;exact λaI aT=>fD.1 h aI aT
theorem atZ: ∀aI∈nn,∀P∈aI,P.Pairwise λa b=>Op.bytesLess a b=true:=fc
theorem OI {P:bo} {aI:List bo} {d:aK} (h:q1 (P::aI) d=true):rU (d,cM P d,())=some (partsOf d (cM P d),())/\ ∀s∈partsOf d (cM P d),q1 aI s=true:=by
 rw[q1,bQ]at h;obtain ⟨q,G⟩:=h;refine ⟨?_,λs aP=>fD.1 G s aP⟩;cases e:rU (d,cM P d,()) with
 |none=>rw[e]at q;cases q
 |some r=>
  obtain ⟨l,ae⟩:=r;rw[e]at q;have:l=partsOf d (cM P d):=of_decide_eq_true q;rw[this]
theorem NG {n:cz} {d:aK} {l:aw} (bW:n.2.2.1≠[]) (h:rU (d,n.2.1,())=some (l,())):AQ (n,d,())=some (l,()):=by
 have ch:(decide ((((n.2.2.1.length):Int):Int)=(0:Int)))=false:=bh (by have:=List.length_pos_iff.2 bW;omega)
 simp only[AQ,ch,av,h]
theorem Bg {Q:cS} {t:ak} (aX:cT t): ∀{aI:List bo} {d:aK} {i:Nat},(∀s∈aI,s.length<=5)->hE Q t aI d i-> ∃n s,Q[i]? =some n/\abs (n,())=some (s,())/\na (n,())=some (s,())/\jR s
 |[],d,i,_,h=>by obtain ⟨s,q,G,W⟩:=aki (n:=(inS d t,[],[],[],[],())) rfl (λp aT=>(aX.inS d).chg p aT) (by have:=(aX.inS d).len;show (inS d t).length<=_;omega);exact ⟨_,s,h,q,G,W⟩
 |P::aI,d,i,aP,⟨ks,sums,buf,q,G,W,aC,bd,bD,dU,gB⟩=>by
  have hm:=ua P d;have hR:=aP P gL;have af: ∀s∈sums,jR s:=by intro s C1;obtain ⟨j,al,rfl⟩:=List.mem_iff_getElem.1 C1;obtain ⟨bj,n,ba,c3⟩:=gB j u;obtain ⟨dq,bU,d1,d2,d3,d4⟩:=Bg aX (λs hU=>aP s (gY _ hU)) bj;obtain rfl:=eY (ba.symm.trans d1);rw[b5 al]at c3;have:=eY (c3.symm.trans d3);have s7:sums[j]=bU:=congrArg Prod.fst this;rw[s7];exact d4
  obtain ⟨s,g1,g2,g3⟩:=atQ (n:=([],cM P d,bJ ks,sums,buf,())) (by intro e;have:=congrArg List.length e;have V:(bJ ks).length=([]:cC).length:=this;rw[fP,List.length_nil]at V;omega) af (by show sums.length<=1000;omega) (λm hm=>(dU m hm).1) (by show buf.length<=1000;omega)
  exact ⟨_,s,q,g1,g2,g3⟩
theorem PT {ks:dB} (h:0<ks.length):bJ ks≠[]:=by intro e;have:=congrArg List.length e;rw[fP,List.length_nil]at this;omega
theorem ajL (w:Int) (hw:0<=w/\w<256):zS (zx w,())=some (true,()):=by
 obtain ⟨m,rfl⟩:=Int.eq_ofNat_of_zero_le hw.1;have au:(List.range 256).all (λk=>match zS (zx ((k:Nat):Int),()) with |some (b,_)=>b |none=>false)=true:=aD;have:=fD.1 au m (List.mem_range.2 u);cases e:zS (zx ((m:Nat):Int),()) with
 |none=>rw[e]at this;cases this
 |some s=>
  obtain ⟨b,ae⟩:=s;rw[e]at this;have L:b=true:=this;rw[L]
theorem hE.set {Q:cS} {t:ak} {r:Nat} (a7:cz): ∀{aI:List bo} {d:aK} {i:Nat},i<r->hE Q t aI d i->hE (Q.set r a7) t aI d i
 |[],d,i,E,h=>by show (Q.set r a7)[i]? =_;rw[List.getElem?_set_ne u];exact h
 |P::aI,d,i,E,⟨ks,sums,buf,q,G,W,aC,bd,bD,dU,gB⟩=>by
  refine ⟨ks,sums,buf,?_,G,W,aC,bd,bD,dU,λj al=> ?_⟩
  ·rw[List.getElem?_set_ne u];exact q
  ·have ag:ks.getD j 0<i:=by rw[b5 al];exact bd _ (dJ al)
   obtain ⟨bj,n,ba,c3⟩:=gB j al;exact ⟨bj.set a7 u,n,by rw[List.getElem?_set_ne u];exact ba,c3⟩
structure azH (Q:cS) (t:ak) (P:bo) (aI:List bo) (root:Nat) (ks:dB) (sums:hz) (buf:cD):Prop where
 n:Q[root]? =some ([],cM P b6,bJ ks,sums,buf,())
 kl:ks.length=(cM P b6).length+1
 sl:sums.length=ks.length
 ml:(cM P b6).length<=5
 piv:E4 (cM P b6) b6
 lt: ∀k∈ks,k<root
 r:root<900
 ins: ∀s∈sums,jR s
 bl:buf.length<=5
 buf: ∀m∈buf,gb m/\jN (m,b6,())=some (true,())
 kid: ∀j,j<ks.length->hE Q t aI (List.getD (partsOf b6 (cM P b6)) j b6) (ks.getD j 0)/\qF Q (ks.getD j 0) (sums.getD j n1)
 sp:rU (b6,cM P b6,())=some (partsOf b6 (cM P b6),())
 pl:(partsOf b6 (cM P b6)).length=(cM P b6).length+1
 good: ∀s∈partsOf b6 (cM P b6),q1 aI s=true
section
variable {Q:cS} {t:ak} {P:bo} {aI:List bo} {root:Nat} {ks:dB} {sums:hz} {buf:cD}
end
theorem G5 {x y:N}:(mT x y<0)↔Op.bytesLess x y=true:=by
 unfold mT;split
 ·simp[*]
 ·rename_i h;split
  ·rename_i he;subst he;simp[iD]
  ·simp[h]
theorem at4 (l:ak) (k:N) (af:cP bT l) (ad:l.length<10^13):
  HC (l,k,())=some ((dR bT k l:Int),hd (key:=bT) k l,()):=by
 have hle:=qK (key:=bT) k l;obtain ⟨r,q,G⟩:=acw (b:=HB) (λd=>(d.2.2.2.2.1-d.2.2.2.1).toNat)
  (λd=> ∃ev fV:Nat,d=(l,k,(l.length:Int),(ev:Int),(fV:Int),())/\ev<=fV/\fV<=l.length/\(∀(m:Nat) (h:m<l.length),m<ev->Op.bytesLess (l[m]).1 k=true)/\(∀(m:Nat) (h:m<l.length),fV<=m->Op.bytesLess (l[m]).1 k=false))
  (λr=>r=.inl (l,k,(l.length:Int),(dR bT k l:Int),()))
  (λd E=>by
   obtain ⟨ev,fV,rfl,i1,i2,i3,i4⟩:=E;have hm:=alb (ev:=ev) (fV:=fV) u;unfold HB;simp only[hm];by_cases pj:ev<fV
   ·left;have bj:((ev:Int)<(fV:Int)):=u;have du:i64.wrap (((ev+fV)/2:Nat):Int)=(((ev+fV)/2:Nat):Int):=cQ u;have ba:((0:Int)<=(((ev+fV)/2:Nat):Int)):=u;have c3:((((ev+fV)/2:Nat):Int)<(l.length:Int)):=u;have bw:(ev+fV)/2<l.length:=u;have bB:l.getD ((ev+fV)/2) (([]:N),(([]:N),((0:Int),())))=l[(ev+fV)/2]:=b5 bw;have dc:i64.wrap ((((ev+fV)/2:Nat):Int)+1)=(((ev+fV)/2+1:Nat):Int):=by rw[cQ u];omega
    simp only[du,bj,ba,c3,aW,aj,bN,bI,bB,abO,dc];cases L:Op.bytesLess (l[(ev+fV)/2]).1 k
    ·have gd: ¬(mT (l[(ev+fV)/2]).1 k<0):=by rw[G5,L];simp
     simp only[gd,bh,av,not_false_eq_true];refine ⟨_,rfl,⟨ev,(ev+fV)/2,rfl,u,u,i3,λm h hm=> ?_⟩,by simp;omega⟩;rcases Nat.lt_or_ge m fV with bd |bd
     ·cases eG:Op.bytesLess (l[m]).1 k
      ·rfl
      ·rcases Nat.eq_or_lt_of_le hm with bD |bD
       ·subst bD;rw[L]at eG;cases eG
       ·have dU:Op.bytesLess (l[(ev+fV)/2]).1 (l[m]).1=true:=List.pairwise_iff_getElem.1 af _ _ bw h bD;have:=gN dU eG;rw[L]at this;cases this
     ·exact i4 m h bd
    ·have gd:(mT (l[(ev+fV)/2]).1 k<0):=by rw[G5,L]
     simp only[gd,aW,aj];refine ⟨_,rfl,⟨(ev+fV)/2+1,fV,rfl,u,i2,λm h hm=> ?_,i4⟩,by simp;omega⟩;rcases Nat.eq_or_lt_of_le (show m<=(ev+fV)/2 by omega) with bD |bD
     ·subst bD;exact L
     ·have dU:Op.bytesLess (l[m]).1 (l[(ev+fV)/2]).1=true:=List.pairwise_iff_getElem.1 af _ _ h bw bD;exact gN dU L
   ·right;have bj: ¬((ev:Int)<(fV:Int)):=u;have he:ev=fV:=u;subst he;simp only[bj,bh,av,not_false_eq_true];refine ⟨_,rfl,?_⟩;have:=abX (key:=bT) k l af ev i2 i3 i4;rw[this])
  (l,k,(l.length:Int),(0:Int),(l.length:Int),()) ⟨0,l.length,aU,u,u,λm h hm=>u,λm h hm=>u⟩ (by simp;omega)
 subst G;unfold HC Qi;simp only[q];by_cases bw:dR bT k l<l.length
 ·have bj:((dR bT k l:Int)<(l.length:Int)):=u;have ba:((0:Int)<=(dR bT k l:Int)):=u;have bB:l.getD (dR bT k l) (([]:N),(([]:N),((0:Int),())))=l[dR bT k l]:=b5 bw;simp only[bj,ba,aW,aj,bN,bI,bB,abO];rw[adO k l af bw];congr 2;have:(mT (l[dR bT k l]).1 k=0)↔(l[dR bT k l]).1=k:=ak9;simp only[this]
 ·have bj: ¬((dR bT k l:Int)<(l.length:Int)):=u;simp only[bj,bh,av,not_false_eq_true];rw[Pm k l u]
theorem Pf (l:ak) (k:N) (af:cP bT l) (ad:l.length<10^13):wB (l,k,())=some ((dR bT k l:Int),hd (key:=bT) k l,()):=by unfold wB;simp only[at4 l k af ad]
section
variable {α:Type} {key:α->N}
theorem Bu (k:N): ∀l:List α,cP key l->l.take (dR key k l)=l.filter λa=>Op.bytesLess (key a) k
 |[],_=>rfl
 |a::l,af=>by
  unfold dR;by_cases h:Op.bytesLess (key a) k=true
  ·rw[if_pos h,List.take_succ_cons,Bu k l af.tail,List.filter_cons,if_pos h]
  ·rw[if_neg h,List.take_zero]
   symm
   rw[List.filter_eq_nil_iff];intro b L bw;rcases fe.1 L with rfl |L
   ·exact h bw
   ·exact h (gN (af.head b L) bw)
theorem G9 (k:N): ∀l:List α,cP key l->l.drop (dR key k l)=l.filter λa=> !Op.bytesLess (key a) k
 |[],_=>rfl
 |a::l,af=>by
  unfold dR;by_cases h:Op.bytesLess (key a) k=true
  ·rw[if_pos h,List.drop_succ_cons,G9 k l af.tail,List.filter_cons,if_neg (by rw[h];simp)]
  ·rw[if_neg h,List.drop_zero]
   symm
   rw[List.filter_eq_self];intro b L;rcases fe.1 L with rfl |L
   ·simpa using h
   ·cases bw:Op.bytesLess (key b) k
    ·rfl
    ·exact absurd (gN (af.head b L) bw) h
theorem BH {aR E:N} (h:Op.bytesLess aR E=true): ∀l:List α,cP key l->dR key aR l<=dR key E l
 |[],_=>ca _
 |a::l,af=>by
  unfold dR;have aO:=BH h l af.tail;by_cases q:Op.bytesLess (key a) aR=true
  ·rw[if_pos q,if_pos (gN q h)];omega
  ·rw[if_neg q];omega
theorem alc {aR E:N} (h:Op.bytesLess aR E=true) (l:List α) (af:cP key l):(l.take (dR key E l)).drop (dR key aR l)=l.filter λa=> !Op.bytesLess (key a) aR&&Op.bytesLess (key a) E:=by
 have e:dR key aR (l.take (dR key E l))=dR key aR l:=by
  symm
  have hle:=BH h l af;have RD:=qK (key:=key) E l;apply abX aR _ (List.Pairwise.sublist (List.take_sublist _ _) af)
  ·rw[eE];omega
  ·intro m hm q;rw[List.getElem_take];exact P8 aR l m (by rw[eE]at hm;omega) q
  ·intro m hm q;rw[List.getElem_take];exact P7 aR l af m (by rw[eE]at hm;omega) q
 conv=>lhs;rw[<-e]
 rw[G9 aR _ (List.Pairwise.sublist (List.take_sublist _ _) af),Bu E l af,List.filter_filter]
end
theorem PJ (d:aK) (k:N):A0 (d,k,())=some (cl d k,()):=by unfold A0 cl;cases Op.bytesLess k d.1<;>cases decide ((d.2.1:N)=[])<;>simp
theorem adf (d:aK) (h:mD d):kI (d,())=some (false,()):=by
 unfold kI;rcases h with h |h
 ·have:decide ((d.2.1:N)=[])=true:=aW h;simp only[this,cK,av]
 ·have aN:d.2.1≠[]:=by intro e;rw[e]at h;cases d.1<;>simp[Op.bytesLess]at h
  have:decide ((d.2.1:N)=[])=false:=bh aN;have G:decide ((d.2.1:N)=d.1)=false:=bh (λe=>nj h e.symm);simp only[this,cH,aj,j6 h,G,Bool.or_self]
theorem ajH (t:ak) (d:aK) (h:mD d) (af:cP bT t) (ad:t.length<10^13):F1 (t,d,())=some (t.filter (λp=>cl d p.1),()):=by
 have q:=qK (key:=bT) d.1 t;have G:=qK (key:=bT) d.2.1 t;unfold F1 EA;simp only[adf d h,av,Pf t _ af ad];by_cases aN:d.2.1=[]
 ·have c:decide ((d.2.1:N)=[])=true:=aW aN;have bj:((0:Int)<=(dR bT d.1 t:Int)):=u;have ba:((dR bT d.1 t:Int)<=(t.length:Int)):=u;simp only[c,cK,av,bj,ba,aW,bN,aj,Int.le_refl,bI,eu];rw[G9 d.1 t af];congr 2;apply List.filter_congr;intro p _;unfold cl;simp[aN,bT]
 ·have bw:=h.resolve_left aN;have W:=BH (key:=bT) bw t af;have c:decide ((d.2.1:N)=[])=false:=bh aN;have bj:((0:Int)<=(dR bT d.1 t:Int)):=u;have ba:((dR bT d.1 t:Int)<=(dR bT d.2.1 t:Int)):=u;have c3:((dR bT d.2.1 t:Int)<=(t.length:Int)):=u;simp only[c,cH,aj,bj,ba,c3,aW,bN,bI];rw[alc bw t af];congr 2;apply List.filter_congr;intro p _;unfold cl;simp[aN,bT]
section
variable {α:Type} {key:α->N}
theorem GO {x:α}: ∀{l:List α},(∀b∈l,Op.bytesLess (key b) (key x)=true)->hY key x l=l++[x]
 |[],_=>rfl
 |a::l,h=>by unfold hY;rw[if_neg (by rw[j6 (h a gL)];simp),GO (λb L=>h b (gY _ L))];rfl
theorem OR {x a:α} (h:Op.bytesLess (key x) (key a)=true): ∀l:List α,hY key x (l++[a])=hY key x l++[a]
 |[]=>by simp[hY,h]
 |b::l=>by
  have aO:=OR h l;simp only[List.cons_append,hY];by_cases L:Op.bytesLess (key x) (key b)=true
  ·rw[if_pos L,if_pos L];rfl
  ·rw[if_neg L,if_neg L,aO];rfl
theorem Ps {k:N} {a:α} (l:List α):iy key k (l++[a])=iy key k l++(if key a=k then [] else [a]):=by unfold iy;rw[List.filter_append];congr 1;by_cases h:key a=k<;>simp[h]
end
theorem abU (t:ak) (p:cp) (af:cP bT t) (ad:t.length<10^12):Eu (t,p,())=some (hY bT p (iy bT p.1 t),()):=by
 obtain ⟨r,q,G⟩:=dG (b:=vR) (λi (d:Bool×ak)=>(t,d.1,(i:Int),p,d.2,())) t.length
  (λi d=>d.2.length<=i+1/\(d.1=false->d.2=t.take i/\ ∀b∈t.take i,Op.bytesLess b.1 p.1=true)/\(d.1=true->d.2=hY bT p (iy bT p.1 (t.take i))/\ ∃b∈t.take i,Op.bytesLess b.1 p.1=false))
  (λr=> ∃I o,r=.inl (I,p,o,())/\o.length<=t.length+1/\(bif I then o else o++[p])=hY bT p (iy bT p.1 t)) u
  (λi E d pn=>by
   left;obtain ⟨I,o⟩:=d;obtain ⟨ab,aM,R4⟩:=pn;have ab:o.length<=i+1:=ab;have bj:((i:Int)<(t.length:Int)):=u;have ba:((0:Int)<=(i:Int)):=u;have bB:t.getD i (([]:N),(([]:N),((0:Int),())))=t[i]:=b5 E;have w:=e7 i u;have room: ∀(o:ak) (s:cp),o.length<=i+2->(o.length+([s]:ak).length)*40<=bC:=λo s h=>by rw[ez];simp;omega
   have jJ:t.take (i+1)=t.take i++[t[i]]:=eH E;have avN: ∀b∈t.take i,Op.bytesLess b.1 (t[i]).1=true:=by intro b L;obtain ⟨j,al,rfl⟩:=List.getElem_of_mem L;rw[List.getElem_take];rw[eE]at al;exact List.pairwise_iff_getElem.1 af j i u E u
   have Ja: ∀(I:Bool) (o:ak),o.length<=i+2->Jp (t,I,(i:Int),p,o,())=some (.inl (t,I,((i+1:Nat):Int),p,(if (t[i]).1=p.1 then o else o++[t[i]]),())):=by
    intro I o h;unfold Jp;by_cases he:(t[i]).1=p.1
    ·simp only[bj,ba,aW,aj,bN,bI,bB,w,he,cK,av,if_pos]
    ·simp only[bj,ba,aW,aj,bN,bI,bB,w,bh he,cH,room o _ h,if_neg he]
   cases I with
   |false=>
    obtain ⟨rfl,fQ⟩:=aM rfl;have hw:iy bT p.1 (t.take i)=t.take i:=by apply GZ;rw[hd,List.any_eq_false];intro b L;have:=nj (fQ b L);simpa using this
    have Rl: ∀c,c=(Op.bytesLess p.1 (t[i]).1||decide (p.1=(t[i]).1))->vR (t,false,(i:Int),p,t.take i,())=vI (t,false,(i:Int),c,p,t.take i,()):=by intro c au;unfold vR;simp only[bj,ba,aW,aj,bN,bI,bB,cH,au]
    have hlen:(t.take i).length<=i:=by rw[eE];omega
    by_cases bw:Op.bytesLess p.1 (t[i]).1=true
    ·have ct: ¬(t[i]).1=p.1:=λe=>nj bw e.symm
     refine ⟨(true,t.take i++[p]++[t[i]]),⟨by simp;omega,(by intro h;cases h),λ_=>⟨?_,t[i],by rw[jJ];exact List.mem_append_right _ (gl.2 rfl),j6 bw⟩⟩,?_⟩
     ·rw[jJ,Ps,if_neg ct,hw,OR (key:=bT) bw,GO (key:=bT) fQ]
     ·rw[Rl true (by rw[bw];rfl)];unfold vI;simp only[aj,room (t.take i) p u,aW];rw[Ja true _ (by simp;omega),if_neg ct]
    ·have bw:Op.bytesLess p.1 (t[i]).1=false:=by simpa using bw
     by_cases he:(t[i]).1=p.1
     ·refine ⟨(true,t.take i++[p]),⟨by simp;omega,(by intro h;cases h),λ_=>⟨?_,t[i],by rw[jJ];exact List.mem_append_right _ (gl.2 rfl),by rw[he];exact iD _⟩⟩,?_⟩
      ·rw[jJ,Ps,if_pos he,List.append_nil,hw,GO (key:=bT) fQ]
      ·rw[Rl true (by rw[bw,aW he.symm];rfl)];unfold vI;simp only[aj,room (t.take i) p u,aW];rw[Ja true _ (by simp;omega),if_pos he]
     ·have p7:Op.bytesLess (t[i]).1 p.1=true:=by
       rcases h0 p.1 (t[i]).1 with h |h |h
       ·rw[h]at bw;cases bw
       ·exact absurd h.symm he
       ·exact h
      refine ⟨(false,t.take i++[t[i]]),⟨by simp;omega,λ_=>⟨jJ.symm,?_⟩,by intro h;cases h⟩,?_⟩
      ·rw[jJ];intro b L;rcases dn.1 L with L |L
       ·exact fQ b L
       ·obtain rfl:=gl.1 L;exact p7
      ·rw[Rl false (by rw[bw,bh (λe=>he e.symm)];rfl)];unfold vI;simp only[av];rw[Ja false _ u,if_neg he]
   |true=>
    obtain ⟨rfl,b,L,Rq⟩:=R4 rfl;have Cx:=avN b L;have afE:Op.bytesLess p.1 (t[i]).1=true:=by
     rcases h0 p.1 b.1 with h |h |h
     ·exact gN h Cx
     ·rw[h];exact Cx
     ·rw[h]at Rq;cases Rq
    have ct: ¬(t[i]).1=p.1:=λe=>nj afE e.symm
    refine ⟨(true,hY bT p (iy bT p.1 (t.take i))++[t[i]]),⟨?_,(by intro h;cases h),λ_=>⟨?_,b,by rw[jJ];exact List.mem_append_left _ L,Rq⟩⟩,?_⟩
    ·rw[et,GP];have hw:((iy bT p.1 (t.take i)).length)+1<=i+1:=by have:=ab;rw[GP]at this;exact this
     simp;omega
    ·rw[jJ,Ps,if_neg ct,OR (key:=bT) afE]
    ·unfold vR vI;simp only[bj,aW,aj,av,cK];rw[Ja true _ u,if_neg ct])
  (λd pn=>by
   obtain ⟨I,o⟩:=d;obtain ⟨ab,aM,R4⟩:=pn;have ab:o.length<=t.length+1:=ab;have bj: ¬((t.length:Int)<(t.length:Int)):=u;refine ⟨.inl (I,p,o,()),⟨I,o,rfl,ab,?_⟩,?_⟩
   ·cases I with
    |true=>
     have e:=(R4 rfl).1;rw[eu]at e;exact e
    |false=>
     obtain ⟨e,fQ⟩:=aM rfl;rw[eu]at e fQ;have e:o=t:=e;subst e;have hw:iy bT p.1 o=o:=by apply GZ;rw[hd,List.any_eq_false];intro b L;have:=nj (fQ b L);simpa using this
     rw[hw,GO (key:=bT) fQ];rfl
   ·unfold vR;simp only[bj,bh,av,not_false_eq_true]) (false,[]) ⟨aU,λ_=>aU,by intro h;cases h⟩
 obtain ⟨I,o,rfl,ab,he⟩:=G;have q:b8 vR (t,false,(0:Int),p,([]:ak),())=some (.inl (I,p,o,())):=q;unfold Eu Xn;simp only[q];rw[<-he];cases I with
 |true=>simp
 |false=>
  have c3:(o.length+([p]:ak).length)*40<=bC:=by rw[ez];simp;omega
  simp only[cH,aj,c3,aW,av]
theorem U7 (l:aw) (k:N) (ad:l.length<10^12):G0 (l,k,())=some (l.any (λd=>cl d k),()):=by
 obtain ⟨r,q,G⟩:=dG (b:=EM) (λi (d:H)=>(l,k,(i:Int),())) l.length (λi d=>(l.take i).any (λd=>cl d k)=false)
  (λr=>(r=.inl (true,())/\l.any (λd=>cl d k)=true)\/(r=.inr ()/\l.any (λd=>cl d k)=false)) u
  (λi E d af=>by
   have bj:((i:Int)<(l.length:Int)):=u;have ba:((0:Int)<=(i:Int)):=u;have bB:l.getD i (([]:N),(([]:N),()))=l[i]:=b5 E;have w:=e7 i u;unfold EM;simp only[bj,ba,aW,aj,bN,bI,bB,w,PJ];cases h:cl l[i] k
   ·left;refine ⟨(),?_,aU⟩;rw[eH E,List.any_append,af];simp[h]
   ·right;refine ⟨.inl (true,()),.inl ⟨rfl,?_⟩,aU⟩;rw[List.any_eq_true];exact ⟨l[i],dJ E,h⟩)
  (λd af=>by have bj: ¬((l.length:Int)<(l.length:Int)):=u;rw[eu]at af;refine ⟨.inr (),.inr ⟨rfl,af⟩,?_⟩;unfold EM;simp only[bj,bh,av,not_false_eq_true]) () aU
 have q:b8 EM (l,k,(0:Int),())=some r:=q;unfold G0 abh;rw[q];rcases G with ⟨rfl,he⟩|⟨rfl,he⟩
 ·rw[he]
 ·rw[he]
theorem Og (t:ak) (l:aw) (aX:t.length<10^12) (ad:l.length<10^12):wb (t,l,())=some (t.filter (λp=> !l.any (λd=>cl d p.1)),()):=by
 obtain ⟨r,q,G⟩:=dG (b:=DA) (λi (o:ak)=>(t,l,(i:Int),o,())) t.length (λi o=>o=(t.take i).filter (λp=> !l.any (λd=>cl d p.1)))
  (λr=>r=.inl (t.filter (λp=> !l.any (λd=>cl d p.1)),())) u
  (λi E o ab=>by
   left;have bj:((i:Int)<(t.length:Int)):=u;have ba:((0:Int)<=(i:Int)):=u;have bB:t.getD i (([]:N),(([]:N),((0:Int),())))=t[i]:=b5 E;have w:=e7 i u;have hlen:o.length<=i:=by rw[ab];have q:=hZ (λp:cp=> !l.any (λd=>cl d p.1)) (t.take i);rw[eE]at q;omega
   have room:(o.length+([t[i]]:ak).length)*40<=bC:=by rw[ez];simp;omega
   unfold DA;simp only[bj,ba,aW,aj,bN,bI,bB,w,U7 l _ ad,room];rw[eH E,List.filter_append,<-ab];cases h:l.any (λd=>cl d (t[i]).1)
   ·exact ⟨_,rfl,by simp[h]⟩
   ·exact ⟨_,rfl,by simp[h]⟩)
  (λo ab=>by have bj: ¬((t.length:Int)<(t.length:Int)):=u;rw[eu]at ab;subst ab;refine ⟨_,rfl,?_⟩;unfold DA;simp only[bj,bh,av,not_false_eq_true]) [] aU
 subst G;have q:b8 DA (t,l,(0:Int),([]:ak),())=_:=q;unfold wb WX;simp only[q]
theorem as4 (t:ak) (l:aw) (aX:t.length<10^12) (ad:l.length<10^12):FM (t,l,())=some (t.filter (λp=>l.any (λd=>cl d p.1)),()):=by
 obtain ⟨r,q,G⟩:=dG (b:=DG) (λi (o:ak)=>(t,l,(i:Int),o,())) t.length (λi o=>o=(t.take i).filter (λp=>l.any (λd=>cl d p.1)))
  (λr=>r=.inl (t.filter (λp=>l.any (λd=>cl d p.1)),())) u
  (λi E o ab=>by
   left;have bj:((i:Int)<(t.length:Int)):=u;have ba:((0:Int)<=(i:Int)):=u;have bB:t.getD i (([]:N),(([]:N),((0:Int),())))=t[i]:=b5 E;have w:=e7 i u;have hlen:o.length<=i:=by rw[ab];have q:=hZ (λp:cp=>l.any (λd=>cl d p.1)) (t.take i);rw[eE]at q;omega
   have room:(o.length+([t[i]]:ak).length)*40<=bC:=by rw[ez];simp;omega
   unfold DG;simp only[bj,ba,aW,aj,bN,bI,bB,w,U7 l _ ad,room];rw[eH E,List.filter_append,<-ab];cases h:l.any (λd=>cl d (t[i]).1)
   ·exact ⟨_,rfl,by simp[h]⟩
   ·exact ⟨_,rfl,by simp[h]⟩)
  (λo ab=>by have bj: ¬((t.length:Int)<(t.length:Int)):=u;rw[eu]at ab;subst ab;refine ⟨_,rfl,?_⟩;unfold DG;simp only[bj,bh,av,not_false_eq_true]) [] aU
 subst G;have q:b8 DG (t,l,(0:Int),([]:ak),())=_:=q;unfold FM Xo;simp only[q]
structure uj (p:N):Prop where
 pre:kU (p,())=some (dW p,())
 pre2:nX (p,())=some (dW p,())
 sh:p=[]\/p=p.dropLast++[47]
structure sx (p:N) (S:aK):Prop where
 pre:kU (p,())=some (S,())
 has: ∀k,cl S k=bL k p
 ok:mD S
theorem uj.o {p:N} (h:uj p):sx p (dW p):=⟨h.pre,Bo h.sh,Va h.sh⟩
theorem acI {p:N} (h:p∈six):uj p:=⟨(mC p h).1,(mC p h).2.1,(mC p h).2.2⟩
theorem kd {k p:N}:bL k p=true↔ ∃r,k=p++r:=by
 unfold bL;rw[bQ,dS,dS];constructor
 ·rintro ⟨_,h⟩;exact ⟨k.drop p.length,by conv=>lhs;rw[<-List.take_append_drop p.length k,h]⟩
 ·rintro ⟨r,rfl⟩;simp
theorem Bs (p r:N):bL (p++r) p=true:=kd.2 ⟨r,rfl⟩
theorem adL {k p s:N} (q:bL k p=true) (G:bL k s=true):bL p s=true\/bL s p=true:=by
 obtain ⟨r,rfl⟩:=kd.1 q;obtain ⟨d,e⟩:=kd.1 G;rcases List.append_eq_append_iff.1 e with ⟨a,W,aC⟩|⟨a,W,aC⟩
 ·right;exact kd.2 ⟨a,W⟩
 ·left;exact kd.2 ⟨a,W⟩
theorem m7 (p a b:N):Op.bytesLess (p++a) (p++b)=Op.bytesLess a b:=by
 induction p with
 |nil=>rfl
 |cons x p aO=>simp[Op.bytesLess,aO]
def ga (f t k:N):N:=t++k.drop f.length
theorem lu (f t r:N):ga f t (f++r)=t++r:=by simp[ga]
theorem ajz (k f t:N) (h:t.length+k.length<10^12):Oe (k,f,t,())=some (bif bL k f then (ga f t k,true,()) else ([],false,())):=by
 unfold Oe;simp only[tT];cases L:bL k f
 ·simp
 ·have hle:f.length<=k.length:=by obtain ⟨r,rfl⟩:=kd.1 L;simp
  have bj:((0:Int)<=(f.length:Int)):=u;have ba:((f.length:Int)<=(k.length:Int)):=u;have c3:t.length+(List.drop f.length k).length<=bC:=by rw[ez,List.length_drop];omega
  simp only[cK,av,aj,bj,ba,Int.le_refl,aW,bN,bI,eu,c3];rfl
theorem O0 (k f t:N) (h:t.length+k.length<10^12):wE (k,f,t,())=some (bif bL k f then (ga f t k,true,()) else ([],false,())):=by
 have aT:sz (k,f,())=some (bL k f,()):=by have:=tT k f;unfold rF at this;unfold sz;exact this
 unfold wE JK SC;simp only[aT];cases L:bL k f
 ·simp
 ·have hle:f.length<=k.length:=by obtain ⟨r,rfl⟩:=kd.1 L;simp
  have bj:((0:Int)<=(f.length:Int)):=u;have ba:((f.length:Int)<=(k.length:Int)):=u;have c3:t.length+(List.drop f.length k).length<=bC:=by rw[ez,List.length_drop];omega
  simp only[cK,av,aj,bj,ba,Int.le_refl,aW,bN,bI,eu,c3];rfl
def kD (acc:ak) (p:cp):ak:=hY bT p (iy bT p.1 acc)
def kf (base l:ak):ak:=l.foldl kD base
def hV (f t:N) (p:cp):cp:=(ga f t p.1,p.2.1,p.2.2.1,())
theorem arG (base l:ak) (p:cp):kf base (l++[p])=kD (kf base l) p:=by simp[kf]
theorem ads (acc:ak) (p:cp):(kD acc p).length<=acc.length+1:=by unfold kD;have:=alo (key:=bT) (k:=p.1) acc;rw[GP];omega
theorem Gc: ∀(l base:ak),(kf base l).length<=base.length+l.length
 |[],base=>by simp[kf]
 |p::l,base=>by have q:=Gc l (kD base p);have G:=ads base p;show (kf (kD base p) l).length<=_;simp;omega
theorem AE: ∀(l base:ak),cP bT base->cP bT (kf base l)
 |[],base,h=>h
 |p::l,base,h=>AE l (kD base p) (cP.ins h.wo (adP _ _))
def I9 (m:bE):Prop:=m.1=4\/m.1=5
def nl (m:bE) (t:ak):ak:=
 bif decide (m.1=4) then (t.filter λx=> !bL x.1 m.2.2.2.2.2.1).filter λx=> !bL x.1 m.2.2.2.2.1 else t.filter λx=> !bL x.1 m.2.2.2.2.2.1
def hL (m:bE) (t:ak):ak:=t.filter λx=>bL x.1 m.2.2.2.2.1
theorem Vs (t:ak) (p:N) (aT:uj p) (ad:t.length<10^12):wb (t,[dW p],())=some (t.filter (λx=> !bL x.1 p),()):=by rw[Og t _ ad aU];congr 2;apply List.filter_congr;intro x an;simp only[List.any_cons,List.any_nil,Bool.or_false,Bo aT.sh]
theorem alE (t:ak) (p:N) (aT:uj p) (ad:t.length<10^12):FM (t,[dW p],())=some (t.filter (λx=>bL x.1 p),()):=by rw[as4 t _ ad aU];congr 2;apply List.filter_congr;intro x an;simp only[List.any_cons,List.any_nil,Bool.or_false,Bo aT.sh]
theorem aaI (m:bE) (base src:ak) (L:cP bT base) (vo:base.length<10^11) (qc:src.length<10^11) (lo: ∀p∈src,bL p.1 m.2.2.2.2.1=true/\m.2.2.2.2.2.1.length+p.1.length<10^12):
  Mg ((0:Int),m,base,src,())=some (.inl (kf base (src.map (hV m.2.2.2.2.1 m.2.2.2.2.2.1)),())):=by
 obtain ⟨r,q,G⟩:=dG (b:=Kg) (λi (o:ak)=>((i:Int),m,o,src,())) src.length (λi o=>o=kf base ((src.take i).map (hV m.2.2.2.2.1 m.2.2.2.2.2.1)))
  (λr=>r=.inl (kf base (src.map (hV m.2.2.2.2.1 m.2.2.2.2.2.1)),())) u
  (λi E o ab=>by
   left;have bj:((i:Int)<(src.length:Int)):=u;have ba:((0:Int)<=(i:Int)):=u;have bB:src.getD i (([]:N),(([]:N),((0:Int),())))=src[i]:=b5 E;have w:=e7 i u;obtain ⟨M,V⟩:=lo _ (dJ E);have hlen:=Gc ((src.take i).map (hV m.2.2.2.2.1 m.2.2.2.2.2.1)) base;rw[List.length_map,eE]at hlen;have R0:cP bT o:=by rw[ab];exact AE _ _ L
   have oF:o.length<10^12:=by rw[ab];omega
   have hm:=ajz (src[i]).1 m.2.2.2.2.1 m.2.2.2.2.2.1 V;rw[M,aj]at hm;have e3:=abU o (hV m.2.2.2.2.1 m.2.2.2.2.2.1 src[i]) R0 oF;have e3:Eu (o,(ga m.2.2.2.2.1 m.2.2.2.2.2.1 (src[i]).1,(src[i]).2.1,(src[i]).2.2.1,()),())=some (kD o (hV m.2.2.2.2.1 m.2.2.2.2.2.1 src[i]),()):=e3;refine ⟨_,rfl,?_⟩;rw[eH E,List.map_append,List.map_singleton,arG,<-ab];unfold Kg;simp only[bj,ba,aW,aj,bN,bI,bB,w,hm,e3])
  (λo ab=>by have bj: ¬((src.length:Int)<(src.length:Int)):=u;rw[eu]at ab;subst ab;refine ⟨_,rfl,?_⟩;unfold Kg;simp only[bj,bh,av,not_false_eq_true]) base (by simp[kf])
 subst G;exact q
theorem asv (t:ak) (m:bE) (hm:I9 m) (aM:uj m.2.2.2.2.1) (aX:uj m.2.2.2.2.2.1) (af:cP bT t) (ad:t.length<10^11) (ag: ∀p∈t,m.2.2.2.2.2.1.length+p.1.length<10^12):
  pi (t,m,())=some (kf (nl m t) ((hL m t).map (hV m.2.2.2.2.1 m.2.2.2.2.2.1)),()):=by
 have cG:decide (m.1=1)=false:=bh (by rcases hm with h |h<;>rw[h]<;>decide);have dq:decide (m.1=2)=false:=bh (by rcases hm with h |h<;>rw[h]<;>decide);have n3:decide (m.1=3)=false:=bh (by rcases hm with h |h<;>rw[h]<;>decide);have n6:decide (m.1=6)=false:=bh (by rcases hm with h |h<;>rw[h]<;>decide);have dH:=hZ (λx:cp=> !bL x.1 m.2.2.2.2.2.1) t;have ds:=hZ (λx:cp=>bL x.1 m.2.2.2.2.1) t;have nQ:=hZ (λx:cp=> !bL x.1 m.2.2.2.2.1) (t.filter λx=> !bL x.1 m.2.2.2.2.2.1);have lo: ∀p∈hL m t,bL p.1 m.2.2.2.2.1=true/\m.2.2.2.2.2.1.length+p.1.length<10^12:=λp aT=>⟨(e8.1 aT).2,ag p (e8.1 aT).1⟩
 have qc:(hL m t).length<10^11:=by unfold hL;omega
 unfold pi;simp only[cG,dq,n3,n6,av,aM.pre2,aX.pre2,Vs t _ aX u,alE t _ aM u];cases aC:decide (m.1=4)
 ·have vn:nl m t=t.filter λx=> !bL x.1 m.2.2.2.2.2.1:=by unfold nl;rw[aC];rfl
  have:=aaI m (nl m t) (hL m t) (by rw[vn];exact List.Pairwise.filter _ af) (by rw[vn];omega) qc lo;rw[vn]at this ⊢;unfold hL at this ⊢;simp only[av,this]
 ·have vn:nl m t=(t.filter λx=> !bL x.1 m.2.2.2.2.2.1).filter λx=> !bL x.1 m.2.2.2.2.1:=by unfold nl;rw[aC];rfl
  have:=aaI m (nl m t) (hL m t) (by rw[vn];exact List.Pairwise.filter _ (List.Pairwise.filter _ af)) (by rw[vn];omega) qc lo;rw[vn]at this ⊢;unfold hL at this ⊢;simp only[aj,Vs _ _ aM (show (t.filter λx=> !bL x.1 m.2.2.2.2.2.1).length<10^12 by omega),this]
theorem atO {k:N} {p:cp} {l:ak} (q:p.1≠k) (G:hd (key:=bT) k l=false):hd (key:=bT) k (hY bT p l)=false:=by
 unfold hd at G ⊢;rw[List.any_eq_false]at G ⊢;intro b L;rcases Bc.1 L with rfl |L
 ·simpa using q
 ·exact G b L
structure wQ (m:bE):Prop where
 kind:I9 m
 from_:m.2.2.2.2.1∈fb
 to_:m.2.2.2.2.2.1∈fb
 ap1:bL m.2.2.2.2.1 m.2.2.2.2.2.1=false
 ap2:bL m.2.2.2.2.2.1 m.2.2.2.2.1=false
theorem wQ.not_both {m:bE} (h:wQ m) {k:N} (q:bL k m.2.2.2.2.1=true):bL k m.2.2.2.2.2.1=false:=by
 cases G:bL k m.2.2.2.2.2.1
 ·rfl
 ·rcases adL q G with W |W
  ·rw[h.ap1]at W;cases W
  ·rw[h.ap2]at W;cases W
theorem wQ.not_both2 {m:bE} (h:wQ m) {k:N} (q:bL k m.2.2.2.2.2.1=true):bL k m.2.2.2.2.1=false:=by
 cases G:bL k m.2.2.2.2.1
 ·rfl
 ·rw[h.not_both G]at q;cases q
def qO (m:bE) (t:ak):ak:=kf (nl m t) ((hL m t).map (hV m.2.2.2.2.1 m.2.2.2.2.2.1))
theorem ate {m:bE} {t:ak} {x:cp} (h:x∈nl m t):x∈t/\bL x.1 m.2.2.2.2.2.1=false:=by
 unfold nl at h;cases ag:decide (m.1=4)
 ·rw[ag]at h;have:=e8.1 h;exact ⟨this.1,by simpa using this.2⟩
 ·rw[ag]at h;have:=e8.1 (e8.1 h).1;exact ⟨this.1,by simpa using this.2⟩
theorem atf {m:bE} {t:ak} (h:cP bT t):cP bT (nl m t):=by
 unfold nl;cases decide (m.1=4)
 ·exact List.Pairwise.filter _ h
 ·exact List.Pairwise.filter _ (List.Pairwise.filter _ h)
theorem atd (m:bE) (t:ak):(nl m t).length<=t.length:=by
 unfold nl;cases decide (m.1=4)
 ·exact hZ _ _
 ·exact Nat.le_trans (hZ _ _) (hZ _ _)
theorem u1 {f t k:N}:bL (ga f t k) t=true:=kd.2 ⟨_,rfl⟩
theorem acL {m:bE} {t:ak}: ∀p∈(hL m t).map (hV m.2.2.2.2.1 m.2.2.2.2.2.1),hd (key:=bT) p.1 (nl m t)=false:=by intro p aT;obtain ⟨s,aP,rfl⟩:=List.mem_map.1 aT;unfold hd;rw[List.any_eq_false];intro b L;have q:=(ate L).2;intro e;have e:b.1=ga m.2.2.2.2.1 m.2.2.2.2.2.1 s.1:=of_decide_eq_true e;rw[e,u1]at q;cases q
theorem G2 {m:bE} {t:ak} (af:cP bT t):((hL m t).map (hV m.2.2.2.2.1 m.2.2.2.2.2.1)).Pairwise (λa b=>a.1≠b.1):=by rw[List.pairwise_map];have h:cP bT (hL m t):=List.Pairwise.filter _ af;refine List.Pairwise.imp_of_mem (λ{a b} aV L gC=> ?_) h;obtain ⟨r,ar⟩:=kd.1 (e8.1 aV).2;obtain ⟨d,af⟩:=kd.1 (e8.1 L).2;show ga _ _ a.1≠ga _ _ b.1;rw[ar,af,lu,lu];intro e;have e:=List.append_cancel_left e;have gC:Op.bytesLess a.1 b.1=true:=gC;rw[ar,af,e,iD]at gC;cases gC
theorem adH {m:bE} {t:ak} (af:cP bT t):cP bT (qO m t):=AE _ _ (atf af)
theorem ak0 (m:bE) (t:ak):(qO m t).length<=2*t.length:=by have q:=Gc ((hL m t).map (hV m.2.2.2.2.1 m.2.2.2.2.2.1)) (nl m t);have G:=atd m t;have W:(hL m t).length<=t.length:=hZ _ _;rw[List.length_map]at q;unfold qO;omega
theorem AV (t:ak) (h:t.length<10^12):ve (t,())=some (t,()):=by
 unfold ve;have:(List.length ([]:ak)+t.length)*40<=bC:=by rw[ez];simp;omega
 simp only[this,aW,aj]
theorem ad4 (t:ak) (p:cp) (af:cP bT t) (ad:t.length<10^12):GJ (t,p,())=some (kD t p,()):=by
 have hle:=qK (key:=bT) p.1 t;unfold GJ kD;simp only[Pf t p.1 af u,AV t ad];cases bg:hd (key:=bT) p.1 t
 ·have avB:Ir ((dR bT p.1 t:Int),t,[p],())=some ([p],hY bT p t,()):=by
   unfold Ir AA;have bj:((0:Int)<=(dR bT p.1 t:Int)):=u;have ba:((dR bT p.1 t:Int)<=(t.length:Int)):=u;have c3:([p]:ak).length=1:=rfl;have gd:t.length+1<10^18:=u;have qb:(t.length+1)*40<=bC:=by rw[ez];omega
   simp only[bj,ba,c3,gd,qb,aW,bN,aj,bI];rw[Vh t af bg]
  simp only[av,avB];rw[GZ _ _ bg]
 ·have bw:dR bT p.1 t<t.length:=by
   rcases Nat.lt_or_ge (dR bT p.1 t) t.length with h |h
   ·exact h
   ·rw[Pm p.1 t u]at bg;cases bg
  have bj:((0:Int)<=(dR bT p.1 t:Int)):=u;have ba:((dR bT p.1 t:Int)<(t.length:Int)):=u;simp only[aj,bj,ba,aW,bN,bI];rw[Vd t af bg]
theorem aky (n:Nat) (h:n<10^12):Iw ((n:Int),())=some (([]:ak),()):=by
 unfold Iw;have hX:i64.wrap ((0:Int)-0)=0:=fc;have du:i64.wrap ((n:Int)-0)=(n:Int):=by rw[cQ u];omega
 have bj: ¬((n:Int)<0):=u;simp only[hX,du,bh bj,av];by_cases aN:n=0
 ·subst aN;have: ¬(((0:Nat):Int)>0):=fc;simp only[bh this,av]
 ·have ba:((n:Int)>0):=u;have c3:((0:Int)<(n:Int)):=u;have gd:((n:Int)*40<=(bC:Int)):=by rw[ez];omega
  have c5:((0:Int)<=((List.replicate (Int.toNat (n:Int)) (([]:N),(([]:N),((0:Int),())))).length:Int)):=u;simp only[ba,c3,gd,c5,aW,bN,aj,List.take_zero]
theorem acd (a b:ak) (h:a.length+b.length<10^12):Iq ([a,b],())=some (a++b,()):=by
 have du:i64.wrap ((0:Int)+(a.length:Int))=(a.length:Int):=by rw[cQ u];omega
 have dc:i64.wrap ((a.length:Int)+(b.length:Int))=((a.length+b.length:Nat):Int):=by rw[cQ u];omega
 have gK:i64.wrap ((0:Int)+1)=1:=fc;have kk:i64.wrap ((1:Int)+1)=2:=fc;have cG: ¬((a.length:Int)<0):=u;have dq: ¬(((a.length+b.length:Nat):Int)<0):=u;have ds:(([a,b]:List ak).length:Int)=2:=rfl;have g0:List.getD [a,b] (Int.toNat 0) ([]:ak)=a:=rfl;have g1:List.getD [a,b] (Int.toNat 1) ([]:ak)=b:=rfl;have aeo:decide ((0:Int)<2)=true:=fc;have d12:decide ((1:Int)<2)=true:=fc;have d22:decide ((2:Int)<2)=false:=fc;have aem:decide ((0:Int)<=0)=true:=fc;have aen:decide ((0:Int)<=1)=true:=fc;have iT:qI ([a,b],(0:Int),[a,b],(2:Int),(0:Int),())=some (.inl ([a,b],(a.length:Int),[a,b],(2:Int),(1:Int),())):=by unfold qI;simp only[ds,g0,aeo,aem,aj,av,bN,du,gK,bh cG]
 have s1:qI ([a,b],(a.length:Int),[a,b],(2:Int),(1:Int),())=some (.inl ([a,b],((a.length+b.length:Nat):Int),[a,b],(2:Int),(2:Int),())):=by unfold qI;simp only[ds,g1,d12,aen,aj,av,bN,dc,kk,bh dq]
 have s2:qI ([a,b],((a.length+b.length:Nat):Int),[a,b],(2:Int),(2:Int),())=some (.inr (.inl ([a,b],((a.length+b.length:Nat):Int),()))):=by unfold qI;simp only[d22,av]
 have q:b8 qI ([a,b],(0:Int),[a,b],(2:Int),(0:Int),())=some (.inl ([a,b],((a.length+b.length:Nat):Int),())):=oQ (n:=3) (by rw[kS];omega) (by simp only[gi,iT,s1,s2]);have ah:(([]:ak).length+a.length)*40<=bC:=by rw[ez];simp;omega
 have aS:(([]++a:ak).length+b.length)*40<=bC:=by rw[ez];simp;omega
 have ayN:qV ([a,b],(2:Int),(0:Int),([]:ak),())=some (.inl ([a,b],(2:Int),(1:Int),[]++a,())):=by unfold qV;simp only[ds,g0,aeo,aem,aj,bN,gK,ah,aW]
 have kV:qV ([a,b],(2:Int),(1:Int),[]++a,())=some (.inl ([a,b],(2:Int),(2:Int),[]++a++b,())):=by unfold qV;simp only[ds,g1,d12,aen,aj,bN,kk,aS,aW]
 have pG:qV ([a,b],(2:Int),(2:Int),[]++a++b,())=some (.inr (.inl ([]++a++b,()))):=by unfold qV;simp only[d22,av]
 have G:b8 qV ([a,b],(2:Int),(0:Int),([]:ak),())=some (.inl ([]++a++b,())):=oQ (n:=3) (by rw[kS];omega) (by simp only[gi,ayN,kV,pG]);unfold Iq Sg Sh;simp only[ds,q,aky _ h,G,List.nil_append]
section
variable {α:Type} {key:α->N}
theorem alf {aR E:N} (h:Op.bytesLess aR E=true) (l:List α) (af:cP key l):l.take (dR key aR l)++l.drop (dR key E l)=l.filter λa=> !(!Op.bytesLess (key a) aR&&Op.bytesLess (key a) E):=by
 have e:l=l.take (dR key E l)++l.drop (dR key E l):=(List.take_append_drop _ _).symm;have hle:=BH h l af
 conv=>rhs;rw[e]
 rw[List.filter_append];have M:(l.drop (dR key E l)).filter (λa=> !(!Op.bytesLess (key a) aR&&Op.bytesLess (key a) E))=l.drop (dR key E l):=by
  rw[List.filter_eq_self];intro a aV;rw[G9 E l af]at aV;have:=(e8.1 aV).2;have:Op.bytesLess (key a) E=false:=by simpa using this
  rw[this];simp
 have V:(l.take (dR key E l)).filter (λa=> !(!Op.bytesLess (key a) aR&&Op.bytesLess (key a) E))=l.take (dR key aR l):=by
  rw[Bu E l af,List.filter_filter,Bu aR l af];apply List.filter_congr;intro a _;cases q:Op.bytesLess (key a) aR
  ·cases Op.bytesLess (key a) E<;>rfl
  ·rw[gN q h];rfl
 rw[M,V]
end
theorem A8 (t:ak) (d:aK) (h:mD d) (af:cP bT t) (ad:t.length<10^12):tQ (t,d,())=some (t.filter (λp=> !cl d p.1),()):=by
 have q:=qK (key:=bT) d.1 t;have G:=qK (key:=bT) d.2.1 t;unfold tQ EA;simp only[adf d h,av,Pf t _ af (show t.length<10^13 by omega)];have bj:((0:Int)<=(dR bT d.1 t:Int)):=u;have ba:((dR bT d.1 t:Int)<=(t.length:Int)):=u;by_cases aN:d.2.1=[]
 ·have c:decide ((d.2.1:N)=[])=true:=aW aN;have c3:((0:Int)<=(t.length:Int)):=u;have ao:List.drop t.length t=[]:=List.drop_length;simp only[c,cK,av,bj,ba,c3,aW,bN,aj,Int.le_refl,bI,eu,List.drop_zero,ao];rw[acd _ _ (by simp;omega)];simp only[List.append_nil];rw[Bu d.1 t af];congr 2;apply List.filter_congr;intro p _;unfold cl;simp[aN,bT]
 ·have bw:=h.resolve_left aN;have c:decide ((d.2.1:N)=[])=false:=bh aN;have c3:((0:Int)<=(dR bT d.2.1 t:Int)):=u;have gd:((dR bT d.2.1 t:Int)<=(t.length:Int)):=u;simp only[c,cH,aj,bj,ba,c3,gd,aW,bN,Int.le_refl,bI,eu,List.drop_zero];rw[acd _ _ (by have:=BH (key:=bT) bw t af;rw[eE,List.length_drop];omega),alf bw t af];dsimp only;congr 2;apply List.filter_congr;intro p _;unfold cl;simp[aN,bT]
theorem Hj: ∀{a b:ak},cP bT a->cP bT b->(∀x,x∈a↔x∈b)->a=b
 |[],[],_,_,_=>rfl
 |[],y::b,_,_,h=>by have:=(h y).2 gL;cases this
 |x::a,[],_,_,h=>by have:=(h x).1 gL;cases this
 |x::a,y::b,aV,L,h=>by
  have te:x=y:=by
   rcases fe.1 ((h x).1 gL) with e |e
   ·exact e
   ·rcases fe.1 ((h y).2 gL) with V |V
    ·exact V.symm
    ·have q:=L.head x e;have G:=aV.head y V;have:=gN q G;rw[iD]at this;cases this
  subst te;congr 1;refine Hj aV.tail L.tail (λz=> ?_);have bK:=h z;constructor
  ·intro I7;rcases fe.1 (bK.1 (gY _ I7)) with e |e
   ·subst e;have:=aV.head z I7;rw[iD]at this;cases this
   ·exact e
  ·intro yF;rcases fe.1 (bK.2 (gY _ yF)) with e |e
   ·subst e;have:=L.head z yF;rw[iD]at this;cases this
   ·exact e
theorem aks {acc:ak} {p x:cp}:x∈kD acc p↔x=p\/(x∈acc/\x.1≠p.1):=by
 unfold kD;rw[Bc];constructor
 ·rintro (h |h)
  ·exact .inl h
  ·have:=e8.1 h;exact .inr ⟨this.1,by simpa using this.2⟩
 ·rintro (h |⟨q,G⟩)
  ·exact .inl h
  ·exact .inr (e8.2 ⟨q,by simpa using G⟩)
theorem DP: ∀{l base:ak},(∀p∈l,hd (key:=bT) p.1 base=false)->l.Pairwise (λa b=>a.1≠b.1)-> ∀x,x∈kf base l↔x∈base\/x∈l
 |[],base,_,_,x=>by simp[kf]
 |p::l,base,q,G,x=>by
  have hw:iy bT p.1 base=base:=GZ _ _ (q p gL);have aT:kD base p=hY bT p base:=by unfold kD;rw[hw]
  have W:=List.pairwise_cons.1 G;have aO:=DP (l:=l) (base:=kD base p) (λs aP=>by rw[aT];exact atO (W.1 s aP) (q s (gY _ aP))) W.2 x
  show x∈kf (kD base p) l↔_;rw[aO,aT,Bc,fe];constructor
  ·rintro ((h |h)|h)
   ·exact .inr (.inl h)
   ·exact .inl h
   ·exact .inr (.inr h)
  ·rintro (h |h |h)
   ·exact .inl (.inr h)
   ·exact .inl (.inl h)
   ·exact .inr h
theorem wK {α:Type} {P bx:List α} {x I:α} {i:Nat} (h:P.length=i):List.getD (P++x::bx) i I=x:=by subst h;simp[List.getD]
theorem adA {out a b:ak} {x y:cp} (q:cP bT (out++x::a)) (G:cP bT (out++y::b)) (bw:Op.bytesLess x.1 y.1=true):cP bT (out++[x]++y::b):=by
 unfold cP at q G ⊢;rw[List.pairwise_append]at q G;rw[List.append_assoc,List.pairwise_append];refine ⟨q.1,?_,?_⟩
 ·show List.Pairwise _ (x::y::b);refine List.pairwise_cons.2 ⟨λz bK=> ?_,G.2.1⟩;rcases fe.1 bK with rfl |bK
  ·exact bw
  ·exact gN bw ((List.pairwise_cons.1 G.2.1).1 z bK)
 ·intro ae hu z bK;rcases fe.1 bK with rfl |bK
  ·exact q.2.2 ae hu _ gL
  ·exact G.2.2 ae hu z bK
theorem akW (a b:ak) (aV:cP bT a) (L:cP bT b) (ao: ∀p∈a,∀s∈b,p.1≠s.1) (ad:a.length+b.length<10^12):
  ∃r,F2 (a,b,())=some (r,())/\cP bT r/\ ∀x,x∈r↔x∈a\/x∈b:=by
 obtain ⟨r,q,G⟩:=acw (b:=zh) (λd=>d.1.length+d.2.1.length)
  (λd=> ∃bt bZ out:ak,d=(bt,bZ,out,())/\cP bT (out++bt)/\cP bT (out++bZ)/\(∀p∈bt,∀s∈bZ,p.1≠s.1)/\(∀x,(x∈out\/x∈bt\/x∈bZ)↔x∈a\/x∈b)/\out.length+bt.length+bZ.length=a.length+b.length)
  (λr=> ∃bt bZ out:ak,r=.inl (bt,bZ,out,())/\cP bT (out++bt++bZ)/\(∀x,(x∈out\/x∈bt\/x∈bZ)↔x∈a\/x∈b)/\out.length+bt.length+bZ.length=a.length+b.length)
  (λd af=>by
   obtain ⟨bt,bZ,out,rfl,s1,s2,lh,hm,hlen⟩:=af;cases bt with
   |nil=>
    right;refine ⟨.inl ([],bZ,out,()),?_,[],bZ,out,rfl,by simpa using s2,hm,hlen⟩;unfold zh Dv;have:decide ((([]:ak).length:Int)=0)=true:=fc;simp only[this,cK,av,aj]
   |cons x bt=>
    cases bZ with
    |nil=>
     right;refine ⟨.inl (x::bt,[],out,()),?_,x::bt,[],out,rfl,by simpa using s1,hm,hlen⟩;unfold zh Dv;have d1:decide (((x::bt).length:Int)=0)=false:=bh (by simp;omega);have d2:decide ((([]:ak).length:Int)=0)=true:=fc;simp only[d1,d2,cH,aj]
    |cons y bZ=>
     left;have d1:decide (((x::bt).length:Int)=0)=false:=bh (by simp;omega);have d2:decide (((y::bZ).length:Int)=0)=false:=bh (by simp;omega);have d3:((0:Int)<((x::bt).length:Int)):=aU;have d4:((0:Int)<((y::bZ).length:Int)):=aU;have d5:((1:Int)<=((x::bt).length:Int)):=by simp;omega
     have d6:((1:Int)<=((y::bZ).length:Int)):=by simp;omega
     have g1:List.getD (x::bt) 0 (([]:N),(([]:N),((0:Int),())))=x:=rfl;have g2:List.getD (y::bZ) 0 (([]:N),(([]:N),((0:Int),())))=y:=rfl;have M:List.drop (Int.toNat 1) (x::bt)=bt:=rfl;have V:List.drop (Int.toNat 1) (y::bZ)=bZ:=rfl;have az9:out.length<10^12:=by simp at hlen;omega
     have room: ∀s:cp,(out.length+([s]:ak).length)*40<=bC:=λs=>by rw[ez];simp;omega
     have ct:x.1≠y.1:=lh x gL y gL;unfold zh Dv;simp only[d1,d2,cH,aj,av,d3,d4,d5,aW,g1,g2,room,Int.le_refl,bN,bI,eu,M];cases bw:Op.bytesLess x.1 y.1
     ·have p7:Op.bytesLess y.1 x.1=true:=by
       rcases h0 x.1 y.1 with h |h |h
       ·rw[h]at bw;cases bw
       ·exact absurd h ct
       ·exact h
      unfold Tw;simp only[bh ct,av,d4,d6,aW,aj,g2,room,Int.le_refl,bN,bI,eu,V];refine ⟨_,rfl,⟨x::bt,bZ,out++[y],rfl,adA s2 s1 p7,by simpa using s2,λp aT s aP=>lh p aT s (gY _ aP),λz=> ?_,by simp at hlen ⊢;omega⟩,aU⟩;rw[<-hm z];simp only[dn,fe,List.mem_nil_iff,or_false];constructor
      ·rintro ((h |h)|(h |h)|h)<;>simp[h]
      ·rintro (h |(h |h)|(h |h))<;>simp[h]
     ·simp only[aj];refine ⟨_,rfl,⟨bt,y::bZ,out++[x],rfl,by simpa using s1,adA s1 s2 bw,λp aT s aP=>lh p (gY _ aT) s aP,λz=> ?_,by simp at hlen ⊢;omega⟩,aU⟩;rw[<-hm z];simp only[dn,fe,List.mem_nil_iff,or_false];constructor
      ·rintro ((h |h)|h |(h |h))<;>simp[h]
      ·rintro (h |(h |h)|(h |h))<;>simp[h])
  (a,b,[],()) ⟨a,b,[],rfl,by simpa using aV,by simpa using L,ao,by intro x;simp,aU⟩ (by simp;omega)
 obtain ⟨bt,bZ,out,rfl,af,hm,hlen⟩:=G;have w:i64.wrap ((a.length:Int)+(b.length:Int))=((a.length+b.length:Nat):Int):=by rw[cQ u];omega
 have bj:((0:Int)<=((a.length+b.length:Nat):Int)):=u;have ba:(((a.length+b.length:Nat):Int)*40<=(bC:Int)):=by rw[ez];omega
 have c3:(out.length+bt.length)*40<=bC:=by rw[ez];omega
 have gd:((out++bt).length+bZ.length)*40<=bC:=by rw[ez,et];omega
 refine ⟨out++bt++bZ,?_,af,λx=> ?_⟩
 ·unfold F2 Ml;simp only[w,bj,ba,Int.le_refl,ca,cf,aW,bN,aj,List.replicate_zero,q,c3,gd]
 ·rw[<-hm x];simp only[dn];constructor
  ·rintro ((h |h)|h)<;>simp[h]
  ·rintro (h |h |h)<;>simp[h]
end D
