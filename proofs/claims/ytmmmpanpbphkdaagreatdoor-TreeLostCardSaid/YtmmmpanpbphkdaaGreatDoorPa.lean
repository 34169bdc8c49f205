import Derived.Test.YtmmmpanpbphkdaaGreatDoorXC
import Derived.Test.YtmmmpanpbphkdaaGreatDoorD
import Derived.KernelRfl
import Derived.Sort.AssemblyPlain
set_option linter.unusedVariables false
set_option linter.unusedSimpArgs false
set_option maxRecDepth 100000
open Go Go.X
open Go.IntKind (i64)
namespace D
theorem am {p:Prop} [Decidable p] (h:p):decide p=true:=decide_eq_true h
theorem bf {p:Prop} [Decidable p] (h: ¬p):decide p=false:=decide_eq_false h
theorem cI {x:Int} (h: -9223372036854775808<=x/\x<9223372036854775808):i64.wrap x=x:=aiP h.1 h.2
theorem dZ (i:Nat):(decide ((0:Int)<=(i:Int)))=true:=am (by omega)
theorem e1 (i:Nat) (h:i<2^62):i64.wrap ((i:Int)+1)=((i+1:Nat):Int):=by rw[cI (by omega)];omega
theorem fe {α:Type} {l:List α} {i:Nat} (h:i<l.length):(decide (((i:Nat):Int)<((l.length):Int)))=true:=am (by omega)
theorem ga {α:Type} (l:List α):(decide (((l.length:Nat):Int)<((l.length):Int)))=false:=bf (by omega)
theorem bW {α:Type} {l:List α} {i:Nat} {I:α} (h:i<l.length):l.getD i I=l[i]:=by simp[List.getD,h]
theorem ek:bp=140737488355328:=rfl
def o5 {α σ ρ:Type} (step:σ->α->σ⊕ρ) (fin:σ->ρ):List α->σ->ρ
 |[],d=>fin d
 |a::l,d=>match step d a with
  | .inl t=>o5 step fin l t
  | .inr r=>r
theorem kN:kZ=10^24:=rfl
theorem aif {S ρ σ α:Type} {b:S->Option (S⊕ρ)} (mk:Nat->σ->S) (step:σ->α->σ⊕ρ) (fin:σ->ρ) (xs:List α) (Inv:Nat->σ->Prop) (hlen:xs.length<10^18)
  (s: ∀i (u:i<xs.length) d,Inv i d->(∃t,step d xs[i]=.inl t/\Inv (i+1) t/\b (mk i d)=some (.inl (mk (i+1) t)))\/(∃r,step d xs[i]=.inr r/\b (mk i d)=some (.inr r)))
  (E: ∀d,Inv xs.length d->b (mk xs.length d)=some (.inr (fin d))) (d:σ) (ae:Inv 0 d):b4 b (mk 0 d)=some (o5 step fin xs d):=by
 have key: ∀(k i:Nat) (d:σ),i+k=xs.length->Inv i d->eI b (k+1) (mk i d)=some (o5 step fin (xs.drop i) d):=by
  intro k
  induction k with
  |zero=>
   intro i d u aZ;have u:i=xs.length:=by omega
   subst u;simp only[eI,E d aZ,List.drop_length,o5]
  |succ k aQ=>
   intro i d u aZ;have e8:i<xs.length:=by omega
   rw[lu e8,o5];rcases s i e8 d aZ with ⟨t,L,aa,a1⟩|⟨r,L,aa⟩
   ·rw[L];simp only[eI,a1];exact aQ (i+1) t (by omega) aa
   ·rw[L];simp only[eI,aa]
 exact m7 (n:=xs.length+1) (by rw[kN];omega) (key xs.length 0 d (by omega) ae)
theorem dM {S ρ σ:Type} {b:S->Option (S⊕ρ)} (mk:Nat->σ->S) (aY:Nat) (Inv:Nat->σ->Prop) (bD:ρ->Prop) (hlen:aY<10^18)
  (s: ∀i,i<aY-> ∀d,Inv i d->(∃t,Inv (i+1) t/\b (mk i d)=some (.inl (mk (i+1) t)))\/(∃r,bD r/\b (mk i d)=some (.inr r)))
  (E: ∀d,Inv aY d-> ∃r,bD r/\b (mk aY d)=some (.inr r)) (d:σ) (ae:Inv 0 d): ∃r,b4 b (mk 0 d)=some r/\bD r:=by
 have key: ∀(k i:Nat) (d:σ),i+k=aY->Inv i d-> ∃r,eI b (k+1) (mk i d)=some r/\bD r:=by
  intro k
  induction k with
  |zero=>
   intro i d u aZ;have u:i=aY:=by omega
   subst u;obtain ⟨r,q,e⟩:=E d aZ;exact ⟨r,by simp only[eI,e],q⟩
  |succ k aQ=>
   intro i d u aZ;rcases s i (by omega) d aZ with ⟨t,aa,a1⟩|⟨r,L,aa⟩
   ·obtain ⟨r,e,q⟩:=aQ (i+1) t (by omega) aa;exact ⟨r,by simp only[eI,a1];exact e,q⟩
   ·exact ⟨r,by simp only[eI,aa],L⟩
 obtain ⟨r,e,q⟩:=key aY 0 d (by omega) ae;exact ⟨r,m7 (n:=aY+1) (by rw[kN];omega) e,q⟩
theorem eY {α:Type} {l:List α} {i:Nat} (h:i<l.length):l.take (i+1)=l.take i++[l[i]]:=by rw[List.take_add_one,hg h];rfl
theorem hJ: ∀a,Op.bytesLess a a=false
 |[]=>rfl
 |a::x=>by simp[Op.bytesLess,hJ x]
theorem fZ: ∀{a b c},Op.bytesLess a b=true->Op.bytesLess b c=true->Op.bytesLess a c=true
 |[],[],_,h,_=>by simp[Op.bytesLess]at h
 |_::_,[],_,h,_=>by simp[Op.bytesLess]at h
 |_,_::_,[],_,h=>by simp[Op.bytesLess]at h
 |[],_::_,_::_,_,_=>rfl
 |a::x,b::y,c::z,h,g=>by
  simp only[Op.bytesLess,Bool.or_eq_true,dJ,bN,beq_iff_eq]at h g ⊢;rcases h with h |⟨rfl,h⟩
  ·rcases g with g |⟨rfl,g⟩
   ·exact .inl (UInt8.lt_trans h g)
   ·exact .inl h
  ·rcases g with g |⟨rfl,g⟩
   ·exact .inl g
   ·exact .inr ⟨rfl,fZ h g⟩
theorem h0: ∀a b,Op.bytesLess a b=true\/a=b\/Op.bytesLess b a=true
 |[],[]=>.inr (.inl rfl)
 |[],_::_=>.inl rfl
 |_::_,[]=>.inr (.inr rfl)
 |a::x,b::y=>by
  simp only[Op.bytesLess,Bool.or_eq_true,dJ,bN,beq_iff_eq,List.cons.injEq];rcases UInt8.lt_or_lt_of_ne (a:=a) (b:=b)|>λh=>(Decidable.em (a=b)).elim (λe=>Or.inl e) (λe=>Or.inr (h e)) with h |h |h
  ·subst h;rcases h0 x y with h |h |h
   ·exact .inl (.inr ⟨rfl,h⟩)
   ·exact .inr (.inl ⟨rfl,h⟩)
   ·exact .inr (.inr (.inr ⟨rfl,h⟩))
  ·exact .inl (.inl h)
  ·exact .inr (.inr (.inl h))
theorem d9 {a b} (h:Op.bytesLess a b=true):Op.bytesLess b a=false:=by
 cases J:Op.bytesLess b a
 ·rfl
 ·have:=fZ h J;rw[hJ]at this;cases this
theorem lT {a b} (h:Op.bytesLess a b=true):a≠b:=by rintro rfl;rw[hJ]at h;cases h
theorem Ap {S ρ:Type} {b:S->Option (S⊕ρ)} (μ:S->Nat) (Inv:S->Prop) (bD:ρ->Prop)
  (h: ∀d,Inv d->(∃t,b d=some (.inl t)/\Inv t/\μ t<μ d)\/(∃r,b d=some (.inr r)/\bD r)) (d:S) (ae:Inv d) (hm:μ d<10^20): ∃r,b4 b d=some r/\bD r:=by
 have key: ∀n d,μ d<n->Inv d-> ∃r,eI b n d=some r/\bD r:=by
  intro n
  induction n with
  |zero=>intro d h;omega
  |succ n aQ=>
   intro d aR u;rcases h d u with ⟨t,e,it,lt⟩|⟨r,e,q⟩
   ·obtain ⟨r,aa,q⟩:=aQ t (by omega) it;exact ⟨r,by simp only[eI,e,aa],q⟩
   ·exact ⟨r,by simp only[eI,e],q⟩
 obtain ⟨r,e,q⟩:=key (μ d+1) d (by omega) ae;exact ⟨r,m7 (n:=μ d+1) (by rw[kN];omega) e,q⟩
section
variable {α:Type} (key:α->M)
def cH (l:List α):Prop:=l.Pairwise λa b=>Op.bytesLess (key a) (key b)=true
def c7 (k:M):List α->Nat
 |[]=>0
 |a::l=>if Op.bytesLess (key a) k=true then c7 k l+1 else 0
def hV (x:α):List α->List α
 |[]=>[x]
 |a::l=>if Op.bytesLess (key x) (key a)=true then x::a::l else a::hV x l
def ir (k:M) (l:List α):List α:=l.filter λa=> !decide (key a=k)
variable {key}
theorem cH.tail {a:α} {l:List α} (h:cH key (a::l)):cH key l:=(List.pairwise_cons.1 h).2
theorem cH.head {a:α} {l:List α} (h:cH key (a::l)): ∀b∈l,Op.bytesLess (key a) (key b)=true:=(List.pairwise_cons.1 h).1
theorem oQ (k:M): ∀l:List α,c7 key k l<=l.length
 |[]=>b7 _
 |a::l=>by
  unfold c7;split
  ·have:=oQ k l;simp;omega
  ·simp
theorem Pk (k:M): ∀(l:List α) (i:Nat) (h:i<l.length),i<c7 key k l->Op.bytesLess (key l[i]) k=true
 |[],i,h,_=>by simp at h
 |a::l,i,h,u=>by
  unfold c7 at u;split at u
  ·rename_i aS;cases i with
   |zero=>exact aS
   |succ i=>exact Pk k l i (by simpa using h) (by omega)
  ·omega
theorem Pj (k:M): ∀(l:List α),cH key l-> ∀(i:Nat) (h:i<l.length),c7 key k l<=i->Op.bytesLess (key l[i]) k=false
 |[],_,i,h,_=>by simp at h
 |a::l,ae,i,h,u=>by
  unfold c7 at u;split at u
  ·rename_i aS;cases i with
   |zero=>omega
   |succ i=>exact Pj k l ae.tail i (by simpa using h) (by omega)
  ·rename_i aS;have aS:Op.bytesLess (key a) k=false:=by simpa using aS
   cases i with
   |zero=>exact aS
   |succ i=>
    have ab:i<l.length:=by simpa using h
    have s:=ae.head l[i] (dz ab);cases J:Op.bytesLess (key (a::l)[i+1]) k
    ·rfl
    ·have:=fZ s J;rw[aS]at this;cases this
theorem NH (k:M) (l:List α) (ae:cH key l) (i:Nat) (u:i<=l.length) (s: ∀(m:Nat) (h:m<l.length),m<i->Op.bytesLess (key l[m]) k=true) (E: ∀(m:Nat) (h:m<l.length),i<=m->Op.bytesLess (key l[m]) k=false):i=c7 key k l:=by
 have ab:=oQ (key:=key) k l;rcases Nat.lt_trichotomy i (c7 key k l) with h |h |h
 ·have a:=E i (by omega) (b7 _);have b:=Pk (key:=key) k l i (by omega) h;rw[a]at b;cases b
 ·exact h
 ·have a:=s (c7 key k l) (by omega) h;have b:=Pj k l ae (c7 key k l) (by omega) (b7 _);rw[a]at b;cases b
def fs (k:M) (l:List α):Bool:=l.any λa=>decide (key a=k)
theorem Gr (k:M): ∀(l:List α),cH key l-> ∀(h:c7 key k l<l.length),fs (key:=key) k l=decide (key l[c7 key k l]=k)
 |[],_,h=>by simp at h
 |a::l,ae,h=>by
  unfold c7 at h ⊢;split
  ·rename_i aS;rw[if_pos aS]at h;have cC:key a≠k:=lT aS;have:=Gr k l ae.tail (by simpa using h);simp only[fs,List.any_cons,decide_eq_false cC,Bool.false_or];exact this
  ·rename_i aS;simp only[fs,List.any_cons,List.getElem_cons_zero];by_cases af:key a=k
   ·simp[af]
   ·have:(l.any λa=>decide (key a=k))=false:=by rw[List.any_eq_false];intro b J;have s:=ae.head b J;simp only[dJ];intro atx;rw[atx]at s;exact aS s
    rw[this];simp[af]
theorem AA (k:M): ∀(l:List α),c7 key k l=l.length->fs (key:=key) k l=false
 |[],_=>rfl
 |a::l,h=>by
  unfold c7 at h;split at h
  ·rename_i aS;have cC:key a≠k:=lT aS;have:=AA k l (by simpa using h);simp only[fs,List.any_cons,decide_eq_false cC,Bool.false_or];exact this
  ·simp at h
theorem Gh (k:M) (l:List α) (h:fs (key:=key) k l=false):ir key k l=l:=by unfold ir;rw[List.filter_eq_self];intro a aS;unfold fs at h;rw[List.any_eq_false]at h;simpa using h a aS
theorem acW {x:α}: ∀(l:List α),cH key l->fs (key:=key) (key x) l=false->l.take (c7 key (key x) l)++[x]++l.drop (c7 key (key x) l)=hV key x l
 |[],_,_=>rfl
 |a::l,ae,aR=>by
  unfold c7 hV;simp only[fs,List.any_cons,Bool.or_eq_false_iff,decide_eq_false_iff_not]at aR;have cC:key a≠key x:=aR.1;rcases h0 (key a) (key x) with h |h |h
  ·rw[if_pos h,if_neg (by rw[d9 h];simp)];have:=acW l ae.tail aR.2;simp only[List.take_succ_cons,List.drop_succ_cons,List.cons_append];rw[this]
  ·exact absurd h cC
  ·rw[if_pos h,if_neg (by rw[d9 h];simp)];simp
theorem ajn {k:M} {l:List α} (h: ∀b∈l,Op.bytesLess k (key b)=true):ir key k l=l:=by unfold ir;rw[List.filter_eq_self];intro a aS;have:=lT (h a aS);simp only[eJ,decide_eq_false_iff_not];exact λe=>this e.symm
theorem aiu {x:α} {l:List α} (h: ∀b∈l,Op.bytesLess (key x) (key b)=true):hV key x l=x::l:=by
 cases l with
 |nil=>rfl
 |cons a l=>unfold hV;rw[if_pos (h a (by simp))]
theorem Ut {x:α}: ∀(l:List α),cH key l->fs (key:=key) (key x) l=true->l.set (c7 key (key x) l) x=hV key x (ir key (key x) l)
 |[],_,aR=>by simp[fs]at aR
 |a::l,ae,aR=>by
  unfold c7;rcases h0 (key a) (key x) with h |h |h
  ·have cC:key a≠key x:=lT h;simp only[fs,List.any_cons,decide_eq_false cC,Bool.false_or]at aR;have:=Ut l ae.tail aR;rw[if_pos h,List.set_cons_succ,this];have e:ir key (key x) (a::l)=a::ir key (key x) l:=by simp[ir,cC]
   rw[e]
   conv=>rhs;unfold hV
   rw[if_neg (by rw[d9 h];simp)]
  ·have bd: ∀b∈l,Op.bytesLess (key x) (key b)=true:=λb J=>by rw[<-h];exact ae.head b J
   rw[if_neg (by rw[h,hJ];simp),List.set_cons_zero];have e:ir key (key x) (a::l)=ir key (key x) l:=by simp[ir,h]
   rw[e,ajn bd,aiu bd]
  ·exfalso;have cC:key a≠key x:=λe=>lT h e.symm
   simp only[fs,List.any_cons,decide_eq_false cC,Bool.false_or,List.any_eq_true,dJ]at aR;obtain ⟨b,J,e⟩:=aR;have s:=fZ h (ae.head b J);rw[e,hJ]at s;cases s
theorem AB {x b:α}: ∀{l:List α},b∈hV key x l↔b=x\/b∈l
 |[]=>by simp[hV]
 |a::l=>by
  unfold hV;split
  ·simp
  ·simp only[eO,AB (l:=l)];constructor
   ·rintro (h |h |h)
    ·exact .inr (.inl h)
    ·exact .inl h
    ·exact .inr (.inr h)
   ·rintro (h |h |h)
    ·exact .inr (.inl h)
    ·exact .inl h
    ·exact .inr (.inr h)
theorem Ga {x:α}: ∀(l:List α),(hV key x l).length=l.length+1
 |[]=>rfl
 |a::l=>by
  unfold hV;split
  ·rfl
  ·simp[Ga l]
theorem cH.ins {x:α}: ∀{l:List α},cH key l->fs (key:=key) (key x) l=false->cH key (hV key x l)
 |[],_,_=>by simp[hV,cH]
 |a::l,ae,aR=>by
  simp only[fs,List.any_cons,Bool.or_eq_false_iff,decide_eq_false_iff_not]at aR;unfold hV;split
  ·rename_i h;refine List.pairwise_cons.2 ⟨λb J=> ?_,ae⟩;rcases eO.1 J with rfl |J
   ·exact h
   ·exact fZ h (ae.head b J)
  ·rename_i h;have E:Op.bytesLess (key a) (key x)=true:=by
    rcases h0 (key a) (key x) with O |O |O
    ·exact O
    ·exact absurd O aR.1
    ·exact absurd O h
   refine List.pairwise_cons.2 ⟨λb J=> ?_,cH.ins ae.tail aR.2⟩;rcases AB.1 J with rfl |J
   ·exact E
   ·exact ae.head b J
theorem cH.wo {k:M} {l:List α} (h:cH key l):cH key (ir key k l):=List.Pairwise.filter _ h
theorem acw (k:M) (l:List α):fs (key:=key) k (ir key k l)=false:=by unfold fs ir;rw[List.any_eq_false];intro a aS;have:=(eV.1 aS).2;simpa using this
theorem ajo {k:M} (l:List α):(ir key k l).length<=l.length:=hE _ _
end
open Go
theorem ahX:MC ()=some (true,()):=by kernel_rfl
open Go
theorem Z5 {p:cN} {i:Nat} (h:i<p.length):rM ((p,()),(i:Int),())=some (p[i].1,()):=by have s:(decide (((i:Nat):Int)>=0))=true:=am (by omega);have E:(decide (((i:Nat):Int)<(p.length:Int)))=true:=am (by omega);have O:=dZ i;simp only[rM,s,E,O,ak,bM,bE,bW h]
theorem aaU {p:cN} {i:Nat} (h:i<p.length) (hu:p[i].1=true) (ab:p[i].2.1=false):kr ((p,()),(i:Int),())=some (p[i].2.2.2.1,0,()):=by have E:(decide (((i:Nat):Int)<(p.length:Int)))=true:=am (by omega);have O:=dZ i;simp only[kr,Z5 h,hu,ab,E,O,ak,ax,cP,bM,bE,bW h]
theorem FA {p:cN} {i:Nat} (h:i<p.length):wi ((p,()),(i:Int),())=some (p[i].1,()):=by have s:(decide (((i:Nat):Int)>=0))=true:=am (by omega);have E:(decide (((i:Nat):Int)<(p.length:Int)))=true:=am (by omega);have O:=dZ i;simp only[wi,s,E,O,ak,bM,bE,bW h]
theorem aqG {p:cN} {i:Nat} (h:i<p.length):JS ((i:Int),p,())=some (p[i].1,p,()):=by have s:(decide (((i:Nat):Int)>=0))=true:=am (by omega);have E:(decide (((i:Nat):Int)<(p.length:Int)))=true:=am (by omega);have O:=dZ i;simp only[JS,s,E,O,ak,bM,bE,bW h]
theorem asl {p:cN} {i:Nat} (h:i<p.length) (hu:p[i].1=true) (ab:p[i].2.1=false):zu ((p,()),(i:Int),())=some (p[i].2.2.2.1,0,()):=by have E:(decide (((i:Nat):Int)<(p.length:Int)))=true:=am (by omega);have O:=dZ i;simp only[zu,FA h,hu,ab,E,O,ak,ax,cP,bM,bE,bW h]
def mk (V:da) (r:Nat->Int):cN:=V.mapIdx λi n=>(true,false,r i,n,())
theorem ln (V:da) (r:Nat->Int):(mk V r).length=V.length:=by simp[mk]
theorem lU {V:da} {r:Nat->Int} {i:Nat} (h:i<(mk V r).length):(mk V r)[i]=(true,false,r i,V[i]'(by rw[<-ln V r];exact h),()):=by simp[mk]
theorem AS {V:da} {r:Nat->Int} {i:Nat} (h:i<V.length) (I:jb):List.getD (mk V r) i I=(true,false,r i,V[i],()):=by rw[bW (by rw[ln];exact h),lU]
theorem UC {V:da} {r:Nat->Int} {i:Nat} (h:i<V.length) (v:Int):(mk V r).set i (true,false,v,V[i],())=mk V (λj=>if j=i then v else r j):=by
 apply List.ext_getElem
 ·simp[mk]
 ·intro j s E;rw[lU,List.getElem_set];split
  ·rename_i e;subst e;simp
  ·rename_i e;rw[lU];simp[Ne.symm e]
theorem AD {V:da} {r gN:Nat->Int} (h: ∀i,i<V.length->r i=gN i):mk V r=mk V gN:=by
 apply List.ext_getElem
 ·simp[mk]
 ·intro j s E;rw[lU,lU,h j (by rw[<-ln V r];exact s)]
theorem aiB (V:da) (n:cZ) (r:Nat->Int):mk V r++[(true,false,r V.length,n,())]=mk (V++[n]) r:=by simp[mk,List.mapIdx_append]
theorem apW {V:da} {r:Nat->Int} {i:Nat} (h:i<V.length):kr ((mk V r,()),(i:Int),())=some (V[i],0,()):=by
 have cu:i<(mk V r).length:=by rw[ln];exact h
 rw[aaU cu (by rw[lU]) (by rw[lU]),lU]
theorem NL {V:da} {r:Nat->Int} {i:Nat} (h:i<V.length):zu ((mk V r,()),(i:Int),())=some (V[i],0,()):=by
 have cu:i<(mk V r).length:=by rw[ln];exact h
 rw[asl cu (by rw[lU]) (by rw[lU]),lU]
theorem abt {p:cN} (h:p.length<=10^5):DU ((p,()),())=some (p,()):=by have s:(decide ((List.length ([]:List (jb))+p.length)*136<=bp))=true:=am (by rw[ek];simp;omega);simp only[DU,s,ak,List.nil_append]
def bP (ks:fh):dR:=ks.map λ(k:Nat)=>(k:Int)
theorem fL (ks:fh):(bP ks).length=ks.length:=by simp[bP]
theorem m2 {ks:fh} {i:Nat} (h:i<ks.length):List.getD (bP ks) i 0=((ks[i]:Nat):Int):=by rw[bW (by rw[fL];exact h)];simp[bP]
theorem ajH {V:da} {r:Nat->Int} {n:cZ} {ks:fh} (af:n.2.2.1=bP ks) (au: ∀k∈ks,k<V.length) (ab:ks.length<=1000):
  MY (0,(mk V r,()),n,[],0,0,())=some (.inr ((mk V r,()),n,[],0,0,())):=by
 obtain ⟨z,s,E⟩:=dM (b:=DZ) (λi (_:G)=>((i:Int),(mk V r,()),n,[],0,0,())) ks.length (λ_ _=>True) (λz=>z=.inr ((mk V r,()),n,[],0,0,())) (by omega)
  (λi u _ _=>by
   left;refine ⟨(),trivial,?_⟩;have L:(decide (((i:Nat):Int)<((n.2.2.1.length):Int)))=true:=am (by rw[af,fL];omega);have aa:=dZ i;have a1:=e1 i (by omega);have dH:ks[i]<(mk V r).length:=by rw[ln];exact au _ (dz u)
   have h1:n.2.2.1.getD i 0=((ks[i]:Nat):Int):=by rw[af,m2 u]
   simp only[DZ,L,aa,ak,bM,bE,h1,FA dH,lU,cP,ax,a1])
  (λ_ _=>by have L:(decide (((ks.length:Nat):Int)<((n.2.2.1.length):Int)))=false:=bf (by rw[af,fL];omega);exact ⟨_,rfl,by simp only[DZ,L,ax]⟩) () trivial
 subst E;exact s
theorem ajI {V:da} {r:Nat->Int} {n:cZ} (ab:V.length<=1000):
  MZ (0,(mk V r,()),n,[],0,0,())=some (.inl ((V.length:Int),(mk V r,()),n,[],0,0,())):=by
 obtain ⟨z,s,E⟩:=dM (b:=D0) (λi (_:G)=>((i:Int),(mk V r,()),n,[],0,0,())) V.length (λ_ _=>True) (λz=>z=.inl ((V.length:Int),(mk V r,()),n,[],0,0,())) (by omega)
  (λi u _ _=>by left;refine ⟨(),trivial,?_⟩;have L:(decide (((i:Nat):Int)<((List.length (mk V r)):Int)))=true:=am (by rw[ln];omega);have aa:=dZ i;have a1:=e1 i (by omega);simp only[D0,L,aa,ak,bM,bE,AS u,a1])
  (λ_ _=>by have L:(decide (((V.length:Nat):Int)<((List.length (mk V r)):Int)))=false:=bf (by rw[ln];omega);exact ⟨_,rfl,by simp only[D0,L,ax]⟩) () trivial
 subst E;exact s
theorem ajJ {V:da} {n:cZ} {ks:fh} {c:Int} (af:n.2.2.1=bP ks) (au: ∀k∈ks,k<V.length) (aR:ks.Nodup) (ab:ks.length<=1000):
  M0 (c,0,n,[],0,0,mk V (λ_=>1),())=some (.inl (c,[],0,0,mk V (λj=>if j∈ks then 2 else 1),())):=by
 obtain ⟨z,s,E⟩:=dM (b:=D1) (λi (l:cN)=>(c,(i:Int),n,[],0,0,l,())) ks.length (λi l=>l=mk V (λj=>if j∈ks.take i then 2 else 1)) (λz=>z=.inl (c,[],0,0,mk V (λj=>if j∈ks then 2 else 1),())) (by omega)
  (λi u l ab=>by
   left;subst ab;refine ⟨_,rfl,?_⟩;have mX:ks[i]<V.length:=au _ (dz u);have L:(decide (((i:Nat):Int)<((n.2.2.1.length):Int)))=true:=am (by rw[af,fL];omega);have aa:=dZ i;have a1:=e1 i (by omega);have bq:(decide ((0:Int)<=((ks[i]:Nat):Int)))=true:=am (by omega);have cU: ∀r,(decide (((ks[i]:Nat):Int)<(List.length (mk V r):Int)))=true:=λr=>am (by rw[ln];omega)
   have nA:ks[i]∉ks.take i:=λhm=>by have E:=eY u;have eb:(ks.take (i+1)).Nodup:=aR.sublist (List.take_sublist _ _);rw[E,List.nodup_append]at eb;exact eb.2.2 _ hm _ (by simp) rfl
   have h1:n.2.2.1.getD i 0=((ks[i]:Nat):Int):=by rw[af,m2 u]
   simp only[D1,L,aa,ak,bM,bE,h1,bq,cU,AS mX,a1,if_neg nA];have dp:i64.wrap ((1:Int)+1)=2:=by rw[cI (by omega)];omega
   have lG:mk V (λj=>if j=ks[i] then 2 else if j∈ks.take i then 2 else 1)=mk V (λj=>if j∈ks.take (i+1) then 2 else 1):=AD λj _=>by
    have hm:j∈ks.take (i+1)↔(j∈ks.take i\/j=ks[i]):=by rw[eY u,dk,fJ]
    by_cases an:j=ks[i]
    ·rw[if_pos an,if_pos (hm.2 (.inr an))]
    ·rw[if_neg an];by_cases E:j∈ks.take i
     ·rw[if_pos E,if_pos (hm.2 (.inl E))]
     ·rw[if_neg E,if_neg (λh=>(hm.1 h).elim E an)]
   rw[dp,UC mX,lG])
  (λl ab=>by subst ab;have L:(decide (((ks.length:Nat):Int)<((n.2.2.1.length):Int)))=false:=bf (by rw[af,fL];omega);exact ⟨_,rfl,by simp only[D1,L,ax,eM]⟩) (mk V (λ_=>1)) (AD λj _=>by simp)
 subst E;exact s
theorem acP {V:da} {n:cZ} {ks:fh} (af:n.2.2.1=bP ks) (au: ∀k∈ks,k<V.length) (aR:ks.Nodup) (ab:ks.length<=1000) (ij:V.length<=900):
  tR ((mk V (λ_=>1),()),n,())=some (((mk (V++[n]) (λj=>if j∈ks then 2 else 1),()),((V.length:Int),(0,()))),()):=by
 have L:(decide (((V.length:Nat):Int)>=4096))=false:=bf (by omega);have hlen:(mk V (λ_=>1)).length=V.length:=ln _ _;have aa:(decide (((V.length:Nat):Int)=((List.length (mk V (λ_=>1))):Int)))=true:=am (by rw[hlen]);have a1: ∀I:jb,(decide ((List.length (mk V (λ_=>1))+List.length ([I]:List (jb)))*136<=bp))=true:=λI=>am (by rw[hlen,ek];simp;omega)
 have bq:(decide ((0:Int)<=((V.length:Nat):Int)))=true:=am (by omega);have cU: ∀I:jb,(decide (((V.length:Nat):Int)<(List.length (mk V (λ_=>1)++[I]):Int)))=true:=λI=>am (by simp[hlen];omega)
 have dp: ∀I:jb,List.set (mk V (λ_=>1)++[I]) V.length (true,false,1,n,())=mk (V++[n]) (λ_=>1):=λI=>by rw[<-aiB,<-hlen,List.set_append_right _ _ (b7 _)];simp
 have E:=ajJ (V:=V++[n]) (n:=n) (ks:=ks) (c:=(V.length:Int)) af (λk af=>by have:=au k af;simp;omega) aR ab;simp only[tR,ajH af au ab,ajI (show V.length<=1000 by omega),L,ax,abt (show (mk V (λ_=>1)).length<=10^5 by omega),aa,a1,ak,MX,bq,cU,bM,bE,dp,E]
theorem ai3 {V:da} {r:Nat->Int} {k:Nat} (af:k<V.length) (au:r k=2):
  L9 ([(k:Int)],[],mk V r,())=some (.inl ([],mk V (λj=>if j=k then 1 else r j),())):=by
 obtain ⟨z,s,E⟩:=dM (b:=DI) (λi (q:dR×cN)=>(q.1,[],q.2,())) 1 (λi q=>(i=0/\q=([(k:Int)],mk V r))\/(i=1/\q=([],mk V (λj=>if j=k then 1 else r j))))
  (λz=>z=.inl ([],mk V (λj=>if j=k then 1 else r j),())) (by omega)
  (λi u q aD=>by
   left;obtain ⟨rfl,rfl⟩:=aD.resolve_right (by omega);refine ⟨_,.inr ⟨rfl,rfl⟩,?_⟩;have gF:k<(mk V r).length:=by rw[ln];exact af
   have L:=dZ k;have aa: ∀gN,(decide ((k:Int)<(List.length (mk V gN):Int)))=true:=λgN=>am (by rw[ln];omega)
   have a1:i64.wrap ((2:Int)-1)=1:=by rw[cI (by omega)];omega
   have bq:List.drop (Int.toNat (1:Int)) (List.take (Int.toNat (List.length [(k:Int)]:Int)) [(k:Int)])=[]:=rfl;have cU:List.getD [(k:Int)] 0 0=(k:Int):=rfl;have dp:(decide ((((List.length [(k:Int)]):Int):Int)>(0:Int)))=true:=rfl;have h1:(decide (((0:Int):Int)<(List.length [(k:Int)]:Int)))=true:=rfl;have lG:(decide (((1:Int):Int)<=(List.length [(k:Int)]:Int))&&decide (((List.length [(k:Int)]:Int):Int)<=(List.length [(k:Int)]:Int)))=true:=rfl;have o7:(decide ((1:Int)=(0:Int)))=false:=rfl;simp only[DI,dp,h1,lG,ak,bq,cU,aqG gF,lU,cP,ax,L,aa,bM,bE,AS af,au,a1,UC af,if_true,o7];rfl)
  (λq aD=>by obtain ⟨-,rfl⟩:=aD.resolve_left (by omega);have dp:(decide ((((List.length ([]:dR)):Int):Int)>(0:Int)))=false:=rfl;exact ⟨_,rfl,by simp only[DI,dp,ax]⟩) ([(k:Int)],mk V r) (.inl ⟨rfl,rfl⟩)
 subst E;exact s
theorem ai4 {V:da} {r:Nat->Int} {k:Nat} (af:k<V.length) (au:r k=2) (ab:V.length<=1000):
  zp ((mk V r,()),(k:Int),())=some ((mk V (λj=>if j=k then 1 else r j),()),0,()):=by
 have gF:k<(mk V r).length:=by rw[ln];exact af
 simp only[zp,FA gF,lU,cP,ax,abt (show (mk V r).length<=10^5 by rw[ln];omega),ai3 af au]
def b9 (d:aK) (k:M):Bool:= !(Op.bytesLess k d.1)&&(decide (d.2.1=[])||Op.bytesLess k d.2.1)
theorem acU (d:aK) (k:M):At (d,k,())=some (b9 d k,()):=by
 simp only[At,b9];cases s:Op.bytesLess k d.1
 ·cases E:decide (d.2.1=[])
  ·simp[E]
  ·simp[E]
 ·simp
def inS (d:aK) (t:aj):aj:=t.filter λp=>b9 d p.1
theorem sc (d:aK) (t:aj):(inS d t).length<=t.length:=hE _ _
theorem ahR (t:aj) (d:aK) (ab:t.length<=10^12):E9 (t,d,())=some (inS d t,()):=by
 obtain ⟨z,s,E⟩:=dM (b:=Dm) (λi (out:aj)=>(t,(i:Int),d,out,())) t.length (λi out=>out=inS d (t.take i)) (λz=>z=.inl (inS d t,())) (by omega)
  (λi u out W=>by
   left;subst W;refine ⟨_,rfl,?_⟩;have L:=fe (i:=i) (l:=t) (by omega);have aa:=dZ i;have a1:=e1 i (by omega);have bq: ∀p:b5,(decide ((List.length (inS d (t.take i))+List.length ([p]:List (b5)))*40<=bp))=true:=λp=>am (by have:=sc d (t.take i);rw[ek];simp at this ⊢;omega)
   have cU:inS d (t.take (i+1))=inS d (t.take i)++(bif b9 d t[i].1 then [t[i]] else []):=by rw[eY u];unfold inS;rw[List.filter_append];cases h:b9 d t[i].1<;>simp[h]
   rw[cU];simp only[Dm,L,aa,ak,bM,bE,bW u,acU];cases h:b9 d t[i].1
   ·simp only[ax,a1,List.append_nil]
   ·simp only[ak,a1,bq])
  (λout W=>by subst W;have L:=ga t;exact ⟨_,rfl,by simp only[Dm,L,ax,eM]⟩) [] rfl
 subst E;have dq:Lw (t,0,d,[],())=some (.inl (inS d t,())):=s;simp only[E9,dq]
def uS (p:b5) (t:aj):aj:=t.filter λx=> !decide (x.1=p.1)
def ins (p:b5):aj->aj
 |[]=>[p]
 |x::t=>bif Op.bytesLess x.1 p.1 then x::ins p t else p::uS p (x::t)
abbrev UO:=(Bool×b5×aj×G)⊕G
def xr (p:b5) (d:Bool×aj) (x:b5):(Bool×aj)⊕UO:=
 let i:=d.1|| !(Op.bytesLess x.1 p.1)
 let o:=bif !d.1&& !(Op.bytesLess x.1 p.1) then d.2++[p] else d.2
 .inl (i,bif !decide (x.1=p.1) then o++[x] else o)
def xq (p:b5) (d:Bool×aj):UO:=.inl (d.1,p,d.2,())
theorem aa8 (p:b5): ∀(t out:aj),o5 (xr p) (xq p) t (true,out)=.inl (true,p,out++uS p t,())
 |[],out=>by simp[o5,uS,xq]
 |x::t,out=>by simp only[o5,xr,Bool.true_or,cP,Bool.false_and,ax];rw[aa8 p t];by_cases h:x.1=p.1<;>simp[uS,h]
theorem aaX (p:b5): ∀(t out:aj),∃b o,o5 (xr p) (xq p) t (false,out)=.inl (b,p,o,())/\(bif b then o else o++[p])=out++ins p t
 |[],out=>⟨false,out,rfl,rfl⟩
 |x::t,out=>by
  simp only[o5,xr,Bool.false_or,cK,Bool.true_and];cases h:Op.bytesLess x.1 p.1
  ·simp only[cK,ak];rw[aa8];refine ⟨_,_,rfl,?_⟩;have e:ins p (x::t)=p::uS p (x::t):=by simp only[ins,h,ax]
   rw[e];by_cases E:x.1=p.1<;>simp[uS,E]
  ·have E:x.1≠p.1:=lT h;simp only[cP,ax,E,decide_false,cK,ak];obtain ⟨b,o,L,aa⟩:=aaX p t (out++[x]);refine ⟨b,o,L,?_⟩;rw[aa];simp[ins,h]
theorem aq5 (p:b5) (t:aj):(uS p t).length<=t.length:=hE _ _
theorem O1 (p:b5): ∀t,(ins p t).length<=t.length+1
 |[]=>by simp[ins]
 |x::t=>by have s:=O1 p t;have E:=aq5 p (x::t);cases h:Op.bytesLess x.1 p.1<;>simp[ins,h]at E ⊢ <;>omega
theorem ahQ (t:aj) (p:b5) (ab:t.length<10^6):FR (t,p,())=some (ins p t,()):=by
 have Q2:MV (t,false,(0:Int),p,([]:aj),())=some (o5 (xr p) (xq p) t (false,[])):=by
  have:=aif (b:=wl) (λdh (d:Bool×aj)=>(t,d.1,(dh:Int),p,d.2,())) (xr p) (xq p) t (λdh d=>d.2.length<=dh+(if d.1 then 1 else 0)) (by omega) (λdh h d ae=>by
    obtain ⟨i,out⟩:=d;have W:out.length<=dh+1:=by simp only at ae;split at ae<;>omega
    left;refine ⟨_,rfl,?_,?_⟩
    ·cases i<;>cases J:Op.bytesLess t[dh].1 p.1<;>by_cases af:t[dh].1=p.1<;>simp[J,af]at ae ⊢ <;>omega
    ·simp-implicitDefEqProofs (disch:=omega) only[wl,Tv,Tw,am,bf,cI,bW,ak,ax,bM,bE,ek,gn,List.length_nil,fr,Int.natCast_add,Int.cast_ofNat_Int];cases i<;>cases J:Op.bytesLess t[dh].1 p.1<;>by_cases af:t[dh].1=p.1<;>simp-implicitDefEqProofs (disch:=omega) [J,af,am]) (λd ae=>by
    unfold wl;simp-implicitDefEqProofs (disch:=omega) only[am,bf,ak,ax,xq]) (false,[]) (by simp)
  exact this
 obtain ⟨b,o,L,aa⟩:=aaX p t [];unfold FR;simp only[Q2,L];simp only[List.nil_append]at aa;have hlen:=O1 p t;cases b
 ·simp only[ax]at aa;have:o.length+1<=t.length+1:=by rw[<-aa]at hlen;simpa using hlen
  simp-implicitDefEqProofs (disch:=omega) only[cK,ak,am,ek,gn,List.length_nil,aa]
 ·simp only[ak]at aa;simp only[cP,ax,aa]
def lW (n:Int):M:=((rN (n,())).map (·.1)).getD []
def abI (n:Nat):Bool:=match rN ((n:Int),()) with
 |some (k,_)=>decide (k.length<=11)&&decide (1<=k.length)
 |none=>false
theorem arz: ∀n:Fin 256,abI n.val=true:=by decide+kernel
theorem ND (n:Int) (b8:0<=n) (s:n<256):rN (n,())=some (lW n,())/\(lW n).length<=11/\1<=(lW n).length:=by
 obtain ⟨m,rfl⟩:=Int.eq_ofNat_of_zero_le b8;have:=arz ⟨m,by omega⟩;unfold abI at this;unfold lW;simp only at this;cases h:rN ((m:Int),()) with
 |none=>simp[h]at this
 |some x=>
  obtain ⟨k,ad⟩:=x;simp[h]at this;simp;omega
def zX (n:Int):M:=List.getD [[],[118],[119,120],[120,121,122]] (n%4).toNat []
def oR (x:hi):b5:=(lW x.1,zX x.2.1,x.2.2.1%4,())
def rI (x:hi):Prop:=(0<=x.1/\x.1<256)/\(0<=x.2.1/\x.2.1<256)/\(0<=x.2.2.1/\x.2.2.1<256)
theorem arK (x:hi) (h:rI x):Fw (x,())=some (oR x,()):=by obtain ⟨a,b,c,ad⟩:=x;obtain ⟨s,E,O⟩:=h;simp only at s E O;obtain ⟨bb,aU,ck⟩:=ND a s.1 s.2;have L:Int.tmod b 4=b%4:=Int.tmod_eq_emod_of_nonneg E.1;have aa:Int.tmod c 4=c%4:=Int.tmod_eq_emod_of_nonneg O.1;unfold Fw;simp-implicitDefEqProofs (disch:=omega) only[bb,L,aa,cI,am,bM,ak,gn,List.length_nil];rfl
def mJ (l:lZ):aj:=l.foldl (λt x=>ins (oR x) t) []
theorem FW (l:lZ):(mJ l).length<=l.length:=by
 have key: ∀(l:lZ) (t:aj),(l.foldl (λt x=>ins (oR x) t) t).length<=t.length+l.length:=by
  intro l
  induction l with
  |nil=>intro t;simp
  |cons x l aQ=>
   intro t;have s:=aQ (ins (oR x) t);have E:=O1 (oR x) t;simp only[List.foldl_cons,gn];omega
 have:=key l [];simp only[List.length_nil,Nat.zero_add]at this;exact this
theorem arD (l:lZ) (h: ∀x∈l,rI x) (ab:l.length<10^18):Aj (l,())=some (mJ (l.take 40),()):=by
 have Q2:JO (l,(0:Int),([]:aj),())=some (.inl (mJ (l.take 40),())):=by
  obtain ⟨r,s,E⟩:=dM (b:=yO) (λdh (t:aj)=>(l,(dh:Int),t,())) (min l.length 40) (λdh t=>t=mJ (l.take dh)) (λr=>r=.inl (mJ (l.take 40),())) (by omega) (λdh dA t aT=>by
    left;have atd:dh<l.length:=by omega
    refine ⟨ins (oR l[dh]) t,?_,?_⟩
    ·show _=mJ _;rw[List.take_add_one,hg atd,aT];simp only[mJ,Option.toList_some,List.foldl_append,List.foldl_cons,List.foldl_nil]
    ·have hlen:t.length<=40:=by rw[aT];have:=FW (l.take dh);simp only[eG]at this;omega
     have aP:=arK l[dh] (h _ (dz _));have aD:=ahQ t (oR l[dh]) (by omega);simp-implicitDefEqProofs (disch:=omega) only[yO,C9,am,bf,cI,bW,ak,ax,bM,bE,aP,aD,Int.natCast_add,Int.cast_ofNat_Int]) (λt aT=>by
    refine ⟨.inl (t,()),?_,?_⟩
    ·simp only[Sum.inl.injEq,cV,and_true];rw[aT];congr 1;rcases Nat.le_total l.length 40 with h |h
     ·rw[Nat.min_eq_left h,h8 h,eM]
     ·rw[Nat.min_eq_right h]
    ·rcases Nat.lt_or_ge (min l.length 40) l.length with h |h
     ·simp-implicitDefEqProofs (disch:=omega) only[yO,C9,am,bf,ak,ax]
     ·simp-implicitDefEqProofs (disch:=omega) only[yO,C9,am,bf,ak,ax]) [] (by simp[mJ])
  have O:JO (l,(0:Int),[],())=some r:=s;rw[O,E]
 unfold Aj;simp only[Q2]
def qy (k:M):Prop:=(tq (k,())).isSome=true
structure Ki (m:bB):Prop where
 kind:1<=m.1/\m.1<=6
 key:m.1=1\/m.1=2->qy m.2.1
 alike:m.1=4\/m.1=5->(tD (m.2.2.2.2.1,m.2.2.2.2.2.1,())).isSome=true
theorem aqq {p:b5} (h:qy p.1): ∃c,yW (p,())=some c:=by
 obtain ⟨r,au⟩:=Option.isSome_iff_exists.1 h;simp only[yW,au];cases (!decide ((r.2.1:Int)=(0:Int)))
 ·cases decide ((r.1.2.1:Int)=(1:Int))
  ·cases decide ((r.1.2.1:Int)=(2:Int))
   ·cases decide ((r.1.2.1:Int)=(3:Int))<;>exact ⟨_,rfl⟩
   ·exact ⟨_,rfl⟩
  ·exact ⟨_,rfl⟩
 ·exact ⟨_,rfl⟩
theorem asx (l:aj) (h: ∀p∈l,qy p.1) (ab:l.length<=10^6): ∃c,zb (l,())=some c:=by
 obtain ⟨z,s,E⟩:=dM (b:=s6) (λi (q:Int×Int)=>(l,(i:Int),0,0,q.1,q.2,())) l.length (λ_ _=>True) (λz=> ∃x,z=.inl x) (by omega)
  (λi u q _=>by left;obtain ⟨c,aw⟩:=aqq (h l[i] (dz u));have L:=fe (i:=i) (l:=l) (by omega);have aa:=dZ i;have a1:=e1 i (by omega);exact ⟨(i64.wrap (q.1+c.1.1),i64.wrap (q.2+c.1.2.1)),trivial,by simp only[s6,L,aa,ak,bM,bE,bW u,aw,a1]⟩)
  (λq _=>by have L:=ga l;exact ⟨_,⟨_,rfl⟩,by simp only[s6,L,ax];rfl⟩) (0,0) trivial
 obtain ⟨x,rfl⟩:=E;have dq:JC (l,0,0,0,0,0,())=some (.inl x):=s;exact ⟨_,by simp only[zb,dq];rfl⟩
theorem abx {k:M} (h:qy k): ∃c,md (k,())=some c:=by obtain ⟨r,au⟩:=Option.isSome_iff_exists.1 h;simp only[md,au];cases decide ((r.2.1:Int)=(0:Int))<;>exact ⟨_,rfl⟩
theorem aqp (d:eQ) {m:bB} (h:Ki m): ∃c,k5 (d,m,())=some c:=by
 simp only[k5,ry,ts];by_cases s:m.1=1
 ·obtain ⟨e,he⟩:=abx (h.key (.inl s));simp only[am s,ak,he];cases e.1<;>exact ⟨_,rfl⟩
 ·by_cases E:m.1=2
  ·obtain ⟨e,he⟩:=abx (h.key (.inr E));simp only[bf s,ax,am E,ak,he];cases e.1<;>exact ⟨_,rfl⟩
  ·by_cases bF:m.1=6
   ·simp only[bf s,bf E,ax,am bF,ak];exact ⟨_,rfl⟩
   ·by_cases O:m.1=3
    ·simp only[bf s,bf E,bf bF,ax,am O,ak];exact ⟨_,rfl⟩
    ·obtain ⟨a,aS⟩:=Option.isSome_iff_exists.1 (h.alike (by have:=h.kind;omega));simp only[bf s,bf E,bf bF,bf O,ax,aS];cases a.1
     ·exact ⟨_,rfl⟩
     ·cases decide ((m.1:Int)=(5:Int))<;>exact ⟨_,rfl⟩
theorem ah1 {n:cZ} (b8:n.2.2.1=[]) (h: ∀p∈n.1,qy p.1) (ab:n.1.length<=10^6): ∃d,m4 (n,())=some d:=by
 obtain ⟨c,aw⟩:=asx n.1 h ab;have L:(decide ((((n.2.2.1.length):Int):Int)=(0:Int)))=true:=by rw[b8];rfl
 simp only[m4,L,ak,aw,Fa];exact ⟨_,rfl⟩
theorem asu {n:cZ} (b8:n.2.2.1≠[]) (ae:n.2.2.2.1.length<=10^6) (h: ∀m∈n.2.2.2.2.1,Ki m) (ab:n.2.2.2.2.1.length<=10^6): ∃d,m4 (n,())=some d:=by
 have b6:(decide ((((n.2.2.1.length):Int):Int)=(0:Int)))=false:=bf (by have:=List.length_pos_iff.2 b8;omega)
 obtain ⟨z,s,x,rfl⟩:=dM (b:=tg) (λi (q:eQ)=>((i:Int),n,0,0,0,0,q,())) n.2.2.2.1.length (λ_ _=>True) (λz=> ∃x:eQ,z=.inl (n,0,0,0,0,x,())) (by omega)
  (λi u q _=>by left;have L:(decide (((i:Nat):Int)<((n.2.2.2.1.length):Int)))=true:=am (by omega);have aa:=dZ i;have a1:=e1 i (by omega);simp only[tg,L,aa,ak,bM,bE,bW u,a1,Ak];exact ⟨_,trivial,rfl⟩)
  (λq _=>by have L:(decide (((n.2.2.2.1.length:Nat):Int)<((n.2.2.2.1.length):Int)))=false:=bf (by omega);exact ⟨_,⟨q,rfl⟩,by simp only[tg,L,ax]⟩) (((0:Int),((0:Int),())),(((0:Int),((0:Int),())),())) trivial
 have dq:JZ (0,n,0,0,0,0,(((0:Int),((0:Int),())),(((0:Int),((0:Int),())),())),())=some (.inl (n,0,0,0,0,x,())):=s;obtain ⟨z,E,y,rfl⟩:=dM (b:=th) (λi (q:eQ)=>((i:Int),n,0,0,0,0,q,())) n.2.2.2.2.1.length (λ_ _=>True) (λz=> ∃x,z=.inl x) (by omega)
  (λi u q _=>by left;obtain ⟨c,aw⟩:=aqp q (h n.2.2.2.2.1[i] (dz u));have L:(decide (((i:Nat):Int)<((n.2.2.2.2.1.length):Int)))=true:=am (by omega);have aa:=dZ i;have a1:=e1 i (by omega);exact ⟨c.1,trivial,by simp only[th,L,aa,ak,bM,bE,bW u,aw,a1]⟩)
  (λq _=>by have L:(decide (((n.2.2.2.2.1.length:Nat):Int)<((n.2.2.2.2.1.length):Int)))=false:=bf (by omega);exact ⟨_,⟨_,rfl⟩,by simp only[th,L,ax];rfl⟩) x trivial
 have hM:J0 (0,n,0,0,0,0,x,())=some (.inl y):=E;exact ⟨_,by simp only[m4,b6,ax,dq,hM];rfl⟩
def six:bc:=[[97,47],[98,47],[97,47,98,47],[99,47],[100,47],[]]
def oN (d:aK):Prop:=d.2.1=[]\/Op.bytesLess d.1 d.2.1=true
def bV (k p:M):Bool:=decide (p.length<=k.length)&&decide (k.take p.length=p)
theorem FF (k p:M):tf (k,p,())=some (bV k p,()):=by
 unfold tf bV;by_cases h:p.length<=k.length
 ·have a7:((k.length:Int)>=(p.length:Int)):=by omega
  have aX:((0:Int)<=(p.length:Int)):=by omega
  have c3:((p.length:Int)<=(k.length:Int)):=by omega
  simp only[a7,aX,c3,am,ak,bM,bE,List.drop_zero,h,Bool.true_and]
 ·have a7: ¬((k.length:Int)>=(p.length:Int)):=by omega
  simp only[a7,bf h,bf,ax,not_false_eq_true,Bool.false_and]
def dF (p:M):aK:=(p,(if p=[] then [] else p.dropLast++[48]),())
theorem acG: ∀(q k:M),(!Op.bytesLess k (q++[47])&&Op.bytesLess k (q++[48]))=bV k (q++[47])
 |[],[]=>by decide
 |[],x::k=>by
  show (!(decide (x<47)||(x==47&&Op.bytesLess k []))&&(decide (x<48)||(x==48&&Op.bytesLess k [])))=bV (x::k) [47];have e:Op.bytesLess k []=false:=by cases k<;>rfl
  rw[e];unfold bV;simp only[Bool.and_false,Bool.or_false,gn,List.length_nil,List.take_succ_cons,List.take_zero];have s:decide (0+1<=k.length+1)=true:=am (by omega);rw[s,Bool.true_and];have E: ∀x:UInt8,(!decide (x<47)&&decide (x<48))=decide (x=47):=by intro x;rw[Bool.eq_iff_iff];simp only[bN,eJ,decide_eq_false_iff_not,dJ,UInt8.lt_iff_toNat_lt,<-UInt8.toNat_inj];show (¬x.toNat<47/\x.toNat<48)↔x.toNat=47;omega
  rw[E];congr 1;simp
 |I::q,[]=>by show (!Op.bytesLess [] (I::(q++[47]))&&_)=bV [] (I::(q++[47]));unfold bV;simp[Op.bytesLess]
 |I::q,x::k=>by
  have aQ:=acG q k;show (!(decide (x<I)||(x==I&&Op.bytesLess k (q++[47])))&&(decide (x<I)||(x==I&&Op.bytesLess k (q++[48]))))=bV (x::k) (I::(q++[47]));have J:bV (x::k) (I::(q++[47]))=(decide (x=I)&&bV k (q++[47])):=by unfold bV;simp only[gn,List.take_succ_cons,List.cons.injEq,Nat.add_le_add_iff_right,Bool.decide_and];cases decide ((q++[47]).length<=k.length)<;>simp
  rw[J,<-aQ];by_cases s:x=I
  ·subst s;simp
  ·have O:(x==I)=false:=by simpa using s
   simp only[O,Bool.false_and,Bool.or_false,bf s];cases decide (x<I)<;>rfl
theorem kO: ∀p∈six,mr (p,())=some (dF p,())/\nP (p,())=some (dF p,())/\(p=[]\/p=p.dropLast++[47]):=by
 have h:six.all (λp=>decide (mr (p,())=some (dF p,()))&&(decide (nP (p,())=some (dF p,()))&&(decide (p=[])||decide (p=p.dropLast++[47]))))=true:=by kernel_rfl
 intro p aP;have E:=fy.1 h p aP;simp only[bN,Bool.or_eq_true,dJ]at E;exact E
theorem w3 {p:M} (h:p=[]\/p=p.dropLast++[47]) (k:M):b9 (dF p) k=bV k p:=by
 unfold b9 dF;by_cases aP:p=[]
 ·subst aP;cases k<;>simp[bV,Op.bytesLess]
 ·have h:=h.resolve_left aP;have:=acG p.dropLast k;rw[<-h]at this;rw[if_neg aP,<-this];have aR: ¬(p.dropLast++[48]=[]):=by simp
  simp only[bf aR,Bool.false_or]
theorem Pn {p:M} (h:p=[]\/p=p.dropLast++[47]):oN (dF p):=by
 unfold oN dF;by_cases aP:p=[]
 ·left;simp[aP]
 ·right;have h:=h.resolve_left aP;simp only[if_neg aP];have: ∀q:M,Op.bytesLess (q++[47]) (q++[48])=true:=by
   intro q
   induction q with
   |nil=>decide
   |cons a q aQ=>simp[Op.bytesLess,aQ]
  conv=>lhs;arg 1;rw[h]
  exact this _
def jl:bc:=[[97,47],[98,47],[97,47,98,47],[99,47]].flatMap λp=>[[1],[2,0,0],[2,0,1],[2,0,2],[3,120]].map λd=>p++d
theorem abJ (n:Int) (h:0<=n/\n<256): ∃k∈jl,zt (n,())=some (k,()):=by
 obtain ⟨k,rfl⟩:=Int.eq_ofNat_of_zero_le h.1;have af:k<256:=by omega
 have aw:(List.range 256).all (λk=>match zt ((k:Int),()) with |some (p,())=>jl.contains p |none=>false)=true:=by kernel_rfl
 have:=fy.1 aw k (List.mem_range.2 af);cases aP:zt ((k:Int),()) with
 |none=>rw[aP]at this;cases this
 |some r=>
  obtain ⟨p,ad⟩:=r;rw[aP]at this;exact ⟨p,by simpa using this,rfl⟩
theorem aqQ (n:Int) (h:0<=n/\n<256): ∃v:M,v.length<=10/\vV (n,())=some (v,()):=by
 obtain ⟨k,rfl⟩:=Int.eq_ofNat_of_zero_le h.1;have af:k<256:=by omega
 have aw:(List.range 256).all (λk=>match vV ((k:Int),()) with |some (p,())=>decide (p.length<=10)|none=>false)=true:=by kernel_rfl
 have:=fy.1 aw k (List.mem_range.2 af);cases aP:vV ((k:Int),()) with
 |none=>rw[aP]at this;cases this
 |some r=>
  obtain ⟨p,ad⟩:=r;rw[aP]at this;exact ⟨p,by simpa using this,rfl⟩
def e0:bc:=[[97,47],[98,47],[97,47,98,47],[99,47],[100,47]]
theorem aaE (n:Int) (h:0<=n/\n<256): ∃p∈e0,qj (n,())=some (p,()):=by
 obtain ⟨k,rfl⟩:=Int.eq_ofNat_of_zero_le h.1;have af:k<256:=by omega
 have aw:(List.range 256).all (λk=>match qj ((k:Int),()) with |some (p,())=>e0.contains p |none=>false)=true:=by kernel_rfl
 have:=fy.1 aw k (List.mem_range.2 af);cases aP:qj ((k:Int),()) with
 |none=>rw[aP]at this;cases this
 |some r=>
  obtain ⟨p,ad⟩:=r;rw[aP]at this;exact ⟨p,by simpa using this,rfl⟩
theorem kk: ∀p∈e0,p∈six:=by intro p aP;simp only[e0,six,eO,List.mem_nil_iff,or_false]at aP ⊢;rcases aP with h |h |h |h |h<;>simp[h]
def od (a b:M):M:=bif bV a b||bV b a then (bif decide (a=[100,47]) then [99,47] else [100,47]) else b
theorem aiO: ∀a∈e0,∀b∈e0,od a b∈e0/\bV a (od a b)=false/\bV (od a b) a=false:=by
 have h:e0.all (λa=>e0.all λb=>e0.contains (od a b)&&(!bV a (od a b)&& !bV (od a b) a))=true:=by kernel_rfl
 intro a aS b J;have:=fy.1 (fy.1 h a aS) b J;simpa using this
abbrev n5:Type:=(Int)×(Int)×(Int)×(Int)×(Int)×(Int)×G
def jz (a:Int) (k v f t:M) (d:aK) (n:Int):bB:=
 bif decide (a=0) then (1,k,v,([],[],()),[],[],n,())
 else bif decide (a=1) then (2,k,[],([],[],()),[],[],0,())
 else bif decide (a=2) then (3,[],[],d,[],[],0,())
 else bif decide (a=3) then (4,[],[],([],[],()),f,t,0,())
 else bif decide (a=4) then (5,[],[],([],[],()),f,t,0,())
 else (6,[],[],d,[],[],n,())
theorem ajO (k f t v:M) (x:n5) (d:aK) (aZ:vV (x.2.2.1,())=some (v,())):
  rn (k,f,t,x,(0:Int),[],[],[],[],[],[],(0:Int),d,())=some (.inl (jz (Int.tmod x.1 6) k v f t d (i64.wrap (Int.tmod x.2.2.2.2.2.1 8)))):=by
 unfold rn jz;simp only[aZ];cases decide (Int.tmod x.1 6=0)<;>cases decide (Int.tmod x.1 6=1)<;>cases decide (Int.tmod x.1 6=2)<;>cases decide (Int.tmod x.1 6=3)<;>cases decide (Int.tmod x.1 6=4)<;>rfl
theorem ajN (k f t v:M) (x:n5) (d:aK) (aZ:vV (x.2.2.1,())=some (v,())) (aL:qj (x.2.1,())=some (f,())) (aT:qj (x.2.2.2.1,())=some (t,())):
  nr (k,x,(0:Int),[],[],[],[],[],[],(0:Int),d,())=some (.inl (jz (Int.tmod x.1 6) k v f (od f t) d (i64.wrap (Int.tmod x.2.2.2.2.2.1 8)))):=by
 unfold nr sN od;simp only[aL,aT,FF];cases bV f t<;>cases bV t f<;>cases decide (f=[100,47])<;>simp only[cP,cK,ak,ax,Bool.or_true,Bool.or_false,Bool.true_or,Bool.false_or,ajO k _ _ v x d aZ]
structure gX (m:bB):Prop where
 kind:m.1=1\/m.1=2\/m.1=3\/m.1=4\/m.1=5\/m.1=6
 key:m.1=1\/m.1=2->m.2.1∈jl
 val:m.1=1->m.2.2.1.length<=10
 span:m.1=3\/m.1=6->oN m.2.2.2.1
 from_:m.1=4\/m.1=5->m.2.2.2.2.1∈e0
 to_:m.1=4\/m.1=5->m.2.2.2.2.2.1∈e0
 apart:m.1=4\/m.1=5->bV m.2.2.2.2.1 m.2.2.2.2.2.1=false/\bV m.2.2.2.2.2.1 m.2.2.2.2.1=false
theorem aqU (a:Int) (k v f t:M) (d:aK) (n:Int) (af:k∈jl) (aZ:v.length<=10) (aL:f∈e0) (aT:t∈e0) (ae:oN d) (s:bV f t=false) (E:bV t f=false):gX (jz a k v f t d n):=by
 unfold jz;cases decide (a=0) with
 |true=>exact ⟨by simp,λ_=>af,λ_=>aZ,(by simp),(by simp),(by simp),(by simp)⟩
 |false=>
  cases decide (a=1) with
  |true=>exact ⟨by simp,λ_=>af,(by simp),(by simp),(by simp),(by simp),(by simp)⟩
  |false=>
   cases decide (a=2) with
   |true=>exact ⟨by simp,(by simp),(by simp),λ_=>ae,(by simp),(by simp),(by simp)⟩
   |false=>
    cases decide (a=3) with
    |true=>exact ⟨by simp,(by simp),(by simp),(by simp),λ_=>aL,λ_=>aT,λ_=>⟨s,E⟩⟩
    |false=>
     cases decide (a=4) with
     |true=>exact ⟨by simp,(by simp),(by simp),(by simp),λ_=>aL,λ_=>aT,λ_=>⟨s,E⟩⟩
     |false=>exact ⟨by simp,(by simp),(by simp),λ_=>ae,(by simp),(by simp),(by simp)⟩
def yU (x:n5):Prop:=(0<=x.1/\x.1<256)/\(0<=x.2.1/\x.2.1<256)/\(0<=x.2.2.1/\x.2.2.1<256)/\(0<=x.2.2.2.1/\x.2.2.2.1<256)
theorem UE (k:M):Op.bytesLess k (k++[0])=true:=by
 induction k with
 |nil=>rfl
 |cons a k aQ=>simp[Op.bytesLess,aQ]
theorem aq8: ∀k∈jl,qy k:=by
 have h:jl.all (λk=>(tq (k,())).isSome)=true:=by kernel_rfl
 exact λk af=>fy.1 h k af
theorem aqb: ∀a∈e0,∀b∈e0,(tD (a,b,())).isSome=true:=by
 have h:e0.all (λa=>e0.all λb=>(tD (a,b,())).isSome)=true:=by kernel_rfl
 exact λa aS b J=>fy.1 (fy.1 h a aS) b J
theorem gX.mok {m:bB} (h:gX m):Ki m:=
 ⟨by have:=h.kind;omega,λaf=>aq8 _ (h.key af),λaf=>aqb _ (h.from_ af) _ (h.to_ af)⟩
theorem abL (a b:M): ∃r,rF (a,b,())=some (r,()):=by
 simp only[rF];cases (!decide (a=([]:M)))
 ·exact ⟨_,rfl⟩
 ·cases (!decide (b=([]:M)))<;>exact ⟨_,rfl⟩
theorem Am (d:aK): ∃r,oD (d,())=some (r,()):=by simp only[oD];cases (!decide (d.2.1=([]:M)))<;>exact ⟨_,rfl⟩
theorem apV (a b c I:M): ∃r,JN (a,b,c,I,())=some (r,()):=by obtain ⟨e,he⟩:=Am (c,I,());simp only[JN,he,NQ];cases e<;>exact ⟨_,rfl⟩
theorem abN (a b:aK): ∃r,Ai (a,b,())=some (r,()):=by obtain ⟨l,ab⟩:=abL b.2.1 a.2.1;simp only[Ai,ab];cases l<;>simp only[ak,ax]<;>exact apV _ _ _ _
theorem aaO (a b:aK): ∃r,nu (a,b,())=some (r,()):=by obtain ⟨e,he⟩:=Am b;obtain ⟨f,aL⟩:=Am a;obtain ⟨l,ab⟩:=abL a.2.1 b.2.1;simp only[nu,he,aL,ab];cases e<;>cases f<;>cases (Op.bytesLess a.1 b.1||decide ((a.1:M)=b.1))<;>exact ⟨_,rfl⟩
theorem asf (d:aK) (ps:bc) (ab:ps.length<=10^5): ∃l,za (d,ps,())=some (l,())/\l.length=ps.length+1:=by
 obtain ⟨z,s,q,rfl,aD⟩:=dM (b:=Dl) (λi (q:M×aq)=>(ps,q.1,(i:Int),d,q.2,())) ps.length (λi q=>q.2.length=i) (λz=> ∃q:M×aq,z=.inl (q.1,d,q.2,())/\q.2.length=ps.length) (by omega)
  (λi u q aD=>by
   left;have L:=fe (i:=i) (l:=ps) (by omega);have aa:=dZ i;have a1:=e1 i (by omega);obtain ⟨r,au⟩:=abN d (q.1,(ps[i],()));have cU: ∀x:aK,(decide ((q.2.length+List.length ([x]:List (aK)))*32<=bp))=true:=λx=>am (by rw[aD,ek];simp;omega)
   exact ⟨(ps[i],q.2++[r]),by simp[aD],by simp only[Dl,L,aa,ak,bM,bE,bW u,au,cU,a1]⟩)
  (λq aD=>by have L:=ga ps;exact ⟨_,⟨q,rfl,aD⟩,by simp only[Dl,L,ax]⟩) (([]:M),([]:aq)) rfl
 have dq:Lv (ps,[],0,d,[],())=some (.inl (q.1,d,q.2,())):=s;obtain ⟨r,au⟩:=abN d (q.1,(([]:M),()));have cU: ∀x:aK,(decide ((q.2.length+List.length ([x]:List (aK)))*32<=bp))=true:=λx=>am (by rw[aD,ek];simp;omega)
 exact ⟨q.2++[r],by simp only[za,dq,au,cU,ak],by simp[aD]⟩
theorem Ah {p:M} (h:p∈e0): ∃r,nP (p,())=some (r,()):=⟨_,(kO p (kk p h)).2.1⟩
theorem acE {k:M} (h:k∈jl): ∃r,oH (k,())=some (r,()):=by
 have hlen:jl.all (λk=>decide (k.length<100))=true:=by kernel_rfl
 have:=of_decide_eq_true (fy.1 hlen k h);have:k.length+([0]:M).length<=bp:=by rw[ek];simp;omega
 simp only[oH,this,am,ak];exact ⟨_,rfl⟩
theorem asj {m:bB} (h:gX m): ∃l,nH (m,())=some (l,())/\l.length<=2:=by
 simp only[nH,rp];by_cases aC:m.1=4
 ·obtain ⟨r,au⟩:=Ah (h.from_ (.inl aC));simp only[am aC,ak,au];exact ⟨_,rfl,by simp⟩
 ·by_cases ba:m.1=5
  ·obtain ⟨r,au⟩:=Ah (h.from_ (.inr ba));simp only[bf aC,am ba,ak,ax,au];exact ⟨_,rfl,by simp⟩
  ·simp only[bf aC,bf ba,ax];cases decide (m.1=6)<;>exact ⟨_,rfl,by simp⟩
theorem aqS {m:bB} (h:gX m): ∃l,jd (m,())=some (l,())/\l.length<=2:=by
 simp only[jd,k3];by_cases s:m.1=1
 ·obtain ⟨r,au⟩:=acE (h.key (.inl s));simp only[am s,ak,au];exact ⟨_,rfl,by simp⟩
 ·by_cases E:m.1=2
  ·obtain ⟨r,au⟩:=acE (h.key (.inr E));simp only[bf s,am E,ak,ax,au];exact ⟨_,rfl,by simp⟩
  ·by_cases aC:m.1=4
   ·obtain ⟨r,au⟩:=Ah (h.from_ (.inl aC));obtain ⟨t,aT⟩:=Ah (h.to_ (.inl aC));simp only[bf s,bf E,am aC,ak,ax,au,aT];exact ⟨_,rfl,by simp⟩
   ·by_cases ba:m.1=5
    ·obtain ⟨t,aT⟩:=Ah (h.to_ (.inr ba));simp only[bf s,bf E,bf aC,am ba,ak,ax,aT];exact ⟨_,rfl,by simp⟩
    ·simp only[bf s,bf E,bf aC,bf ba,ax];exact ⟨_,rfl,by simp⟩
theorem apT (d:aK) (l:aq) (ab:l.length<=1000): ∃r,JQ (0,d,l,())=some r:=by
 obtain ⟨z,s,-⟩:=dM (b:=td) (λi (_:G)=>((i:Int),d,l,())) l.length (λ_ _=>True) (λ_=>True) (by omega)
  (λi u _ _=>by
   have L:=fe (i:=i) (l:=l) (by omega);have aa:=dZ i;have a1:=e1 i (by omega);obtain ⟨r,au⟩:=aaO d l[i];simp only[td,L,aa,ak,bM,bE,bW u,au,a1];cases r
   ·exact .inr ⟨_,trivial,rfl⟩
   ·exact .inl ⟨(),trivial,rfl⟩)
  (λ_ _=>by have L:=ga l;exact ⟨_,trivial,by simp only[td,L,ax];rfl⟩) () trivial
 exact ⟨z,s⟩
theorem aie {m:bB} (h:gX m) (d:aK): ∃r,kc (m,d,())=some (r,()):=by obtain ⟨a,aS,ats⟩:=asj h;obtain ⟨b,J,en⟩:=aqS h;obtain ⟨z,bI⟩:=apT d (([]++a)++b) (by simp;omega);have L:(decide ((List.length ([]:List (aK))+a.length)*32<=bp))=true:=am (by rw[ek];simp;omega);have aa:(decide ((List.length (([]:List (aK))++a)+b.length)*32<=bp))=true:=am (by rw[ek];simp;omega);simp only[kc,aS,J,L,aa,ak,bI];cases z<;>exact ⟨_,rfl⟩
abbrev rY:Type:=((bZ)×(List (b5))×(aK)×(List bc)×(e4)×G)->Option ((fi)×G)
def pN (V:da):Nat->Nat->Prop
 |0,_=>False
 |h+1,i=> ∃n,V[i]? =some n/\
   ((h=0/\n.2.2.1=[]/\n.1.length<=1000/\ ∀p∈n.1,qy p.1)\/
    (0<h/\ ∃ks:fh,n.2.2.1=bP ks/\ks.length=n.2.1.length+1/\n.2.1.length<=100/\n.2.2.2.1.length<=1000/\n.2.2.2.2.1.length<=5/\(∀m∈n.2.2.2.2.1,gX m)/\ ∀k∈ks,pN V h k))
theorem pN.app {V:da} (l:da): ∀{h i:Nat},pN V h i->pN (V++l) h i
 |0,_,h=>h.elim
 |h+1,i,⟨n,aR,bC⟩=>by refine ⟨n,?_,bC.imp id λ⟨b8,ks,a,b,c,I,e,f,g⟩=>⟨b8,ks,a,b,c,I,e,f,λk af=>pN.app l (g k af)⟩⟩;rw[List.getElem?_append_left (iC.1 aR).1];exact aR
theorem pN.lt {V:da} {h i:Nat} (t:pN V h i):i<V.length:=by
 cases h with
 |zero=>exact t.elim
 |succ h=>
  obtain ⟨n,aR,-⟩:=t;exact (iC.1 aR).1
theorem pN.sum {V:da} {h i:Nat} (t:pN V h i) (n:cZ) (aR:V[i]? =some n): ∃d,m4 (n,())=some d:=by
 cases h with
 |zero=>exact t.elim
 |succ h=>
  obtain ⟨m,hm,bC⟩:=t;obtain rfl:=eW (hm.symm.trans aR);rcases bC with ⟨-,b8,s,E⟩|⟨-,ks,a,b,c,I,e,f,g⟩
  ·exact ah1 b8 E (by omega)
  ·refine asu ?_ (by omega) (λm hm=>(f m hm).mok) (by omega);intro h;rw[a]at h;have:=congrArg List.length h;rw[fL,List.length_nil]at this;omega
structure Kd where
 l:da
 ks:fh
 sums:hH
theorem arY (r:rY) (aY:da) (ks:fh) (bd: ∀k∈ks,k<aY.length) (aR:ks.Nodup) (ab:aY.length<=1000) (hR:ks.length<=1000) (a:qf) (piv:bc) (sums:hH) (buf:cG):
  Jw r (0,[],0,[],a,(mk aY (λj=>if j∈ks then 2 else 1),()),piv,bP ks,sums,buf,())=some (.inl ([],0,a,(mk aY (λ_=>1),()),())):=by
 obtain ⟨z,s,E⟩:=dM (b:=yF r) (λi (p:cN)=>((i:Int),[],0,[],a,(p,()),piv,bP ks,sums,buf,())) ks.length (λi p=>p=mk aY (λj=>if j∈ks.drop i then 2 else 1)) (λz=>z=.inl ([],0,a,(mk aY (λ_=>1),()),())) (by omega)
  (λi u p aP=>by
   left;subst aP;refine ⟨_,rfl,?_⟩;have mX:ks[i]<aY.length:=bd _ (dz u);have L:(decide (((i:Nat):Int)<((List.length (bP ks)):Int)))=true:=am (by rw[fL];omega);have aa:=dZ i;have a1:=e1 i (by omega);have al:ks.drop i=ks[i]::ks.drop (i+1):=lu u;have eb:(ks[i]::ks.drop (i+1)).Nodup:=by rw[<-al];exact aR.sublist (List.drop_sublist _ _)
   have nA:=(List.nodup_cons.1 eb).1;have bq:=ai4 (V:=aY) (r:=λj=>if j∈ks.drop i then 2 else 1) mX (if_pos (by rw[al];exact gh)) ab;have cU:mk aY (λj=>if j=ks[i] then 1 else if j∈ks.drop i then 2 else 1)=mk aY (λj=>if j∈ks.drop (i+1) then 2 else 1):=AD λj _=>by
    by_cases an:j=ks[i]
    ·rw[if_pos an,if_neg (by rw[an];exact nA)]
    ·rw[if_neg an];have:j∈ks.drop i↔j∈ks.drop (i+1):=by rw[al,eO];exact ⟨λh=>h.resolve_left an,.inr⟩
     by_cases E:j∈ks.drop i
     ·rw[if_pos E,if_pos (this.1 E)]
     ·rw[if_neg E,if_neg (λh=>E (this.2 h))]
   rw[cU]at bq;simp only[yF,L,aa,ak,bM,bE,m2 u,bq,a1])
  (λp aP=>by
   subst aP;have L:(decide (((ks.length:Nat):Int)<((List.length (bP ks)):Int)))=false:=bf (by rw[fL];omega);have cU:mk aY (λj=>if j∈ks.drop ks.length then 2 else 1)=mk aY (λ_=>1):=AD λj _=>by rw[List.drop_length];simp
   exact ⟨_,rfl,by simp only[yF,L,ax,cU]⟩) (mk aY (λj=>if j∈ks then 2 else 1)) (by simp)
 subst E;exact s
theorem arX (r:rY) (aY:da) (ks:fh) (bd: ∀k∈ks,k<aY.length) (aR:ks.Nodup) (ab:aY.length<=899) (hR:ks.length<=1000) (piv:bc) (sums:hH) (buf:cG):
  vH r ((mk aY (λ_=>1),()),[],0,[],piv,bP ks,sums,buf,())=some (((mk (aY++[([],piv,bP ks,sums,buf,())]) (λ_=>1),()),((aY.length:Nat):Int),()),()):=by
 have L:=acP (V:=aY) (n:=([],piv,bP ks,sums,buf,())) (ks:=ks) rfl bd aR hR (by omega);have aa:=arY r (aY++[([],piv,bP ks,sums,buf,())]) ks (λk af=>by have:=bd k af;simp;omega) aR (by simp;omega) hR ((mk (aY++[([],piv,bP ks,sums,buf,())]) (λj=>if j∈ks then 2 else 1),()),((aY.length:Int),(0,()))) piv sums buf;simp only[vH,L,aa]
structure ahN (x:e4):Prop where
 b0:(∀y∈x.2.1.1,yU y)/\x.2.1.1.length<10^18
 b1:(∀y∈x.2.1.2.1,yU y)/\x.2.1.2.1.length<10^18
 b2:(∀y∈x.2.1.2.2.1,yU y)/\x.2.1.2.2.1.length<10^18
 b3:(∀y∈x.2.1.2.2.2.1,yU y)/\x.2.1.2.2.2.1.length<10^18
structure wN (t:aj):Prop where
 len:t.length<=1000
 key: ∀p∈t,qy p.1
theorem O2 (p q:b5): ∀t:aj,q∈ins p t->q=p\/q∈t
 |[],h=>by simp[ins]at h;exact .inl h
 |x::t,h=>by
  unfold ins at h;cases J:Op.bytesLess x.1 p.1
  ·rw[J,ax]at h;rcases eO.1 h with h |h
   ·exact .inl h
   ·exact .inr (eV.1 h).1
  ·rw[J,ak]at h;rcases eO.1 h with h |h
   ·exact .inr (by rw[h];exact gh)
   ·exact (O2 p q t h).imp id (gO _)
theorem Oc (l:lZ) (q:b5) (h:q∈mJ l): ∃y∈l,q=oR y:=by
 have key: ∀(l:lZ) (t:aj),q∈l.foldl (λt x=>ins (oR x) t) t->q∈t\/ ∃y∈l,q=oR y:=by
  intro l
  induction l with
  |nil=>intro t h;exact .inl h
  |cons x l aQ=>
   intro t h;rcases aQ _ h with h |⟨y,bo,e⟩
   ·rcases O2 _ _ _ h with h |h
    ·exact .inr ⟨x,gh,h⟩
    ·exact .inl h
   ·exact .inr ⟨y,gO _ bo,e⟩
 rcases key l [] h with h |h
 ·simp at h
 ·exact h
theorem aiG (n:Int) (b8:0<=n) (s:n<256):qy (lW n):=by
 obtain ⟨m,rfl⟩:=Int.eq_ofNat_of_zero_le b8;have aw:(List.range 256).all (λk=>(tq (lW ((k:Nat):Int),())).isSome)=true:=by kernel_rfl
 exact fy.1 aw m (List.mem_range.2 (by omega))
theorem aj9 (l:lZ) (h: ∀x∈l,rI x):wN (mJ (l.take 40)):=by
 refine ⟨?_,λp aP=> ?_⟩
 ·have:=FW (l.take 40);simp only[eG]at this;omega
 ·obtain ⟨y,bo,rfl⟩:=Oc _ _ aP;have:=(h y (List.mem_of_mem_take bo)).1;exact aiG y.1 this.1 this.2
def cap:Nat->Nat
 |0=>1
 |I+1=>1+6*cap I
structure ayc (x:e4):Prop where
 xok:ahN x
 t:(∀y∈x.1,rI y)/\x.1.length<10^18
 w:0<=x.2.2.1/\x.2.2.1<256
def nd:List (List bc):=[[],[[[97,47,98,47],[98,47],[99,47]]],[[[98,47]],[[97,47,2],[97,47,98,47],[99,47]]],[[[97,47,98,47],[98,47]],[[97,47,98,47,2],[99,47],[100,47]]]]
def pD (w:Int):hi:=(i64.wrap (2+i64.wrap (Int.tmod (IntKind.u8.wrap (Int.tdiv w 4)) 4)),(i64.wrap (2+i64.wrap (Int.tmod (IntKind.u8.wrap (Int.tdiv w 16)) 3)),(i64.wrap (1+i64.wrap (IntKind.u8.wrap (Int.tdiv w 64))),())))
theorem aih (x:e4):Fz (x,())=match Aj (x.1,()) with
  |none=>none
  |some Q=>bif (decide ((0:Int)<=i64.wrap (Int.tmod x.2.2.1 4))&&decide (i64.wrap (Int.tmod x.2.2.1 4)<(nd.length:Int))) then
    match Fc ((([]:List (jb)),()),Q.1,(([]:M),(([]:M),())),nd.getD (Int.toNat (i64.wrap (Int.tmod x.2.2.1 4))) [],x,()) with
    |none=>none
    |some bR=>some ((bR.1.1,(bR.1.2.1,(pD x.2.2.1,()))),())
   else none:=rfl
theorem UB {dh dK:Nat} (h:dh+dK<2^62):Int.fdiv (IntKind.u64.wrap (i64.wrap ((dh:Int)+(dK:Int)))) (2^(min (Int.toNat (1:Int)) IntKind.u64.bits))=(((dh+dK)/2:Nat):Int):=by
 have L:i64.wrap ((dh:Int)+(dK:Int))=((dh+dK:Nat):Int):=by rw[cI (by omega)];omega
 have aa:IntKind.u64.wrap ((dh+dK:Nat):Int)=((dh+dK:Nat):Int):=by show ((dh+dK:Nat):Int)%2^64=_;omega
 rw[L,aa];have a1:(2:Int)^(min (Int.toNat (1:Int)) IntKind.u64.bits)=2:=by decide
 rw[a1,Int.fdiv_eq_ediv_of_nonneg _ (by omega)];omega
theorem aib (a b:M):Jp (a,b,())=some (Op.bytesLess a b,()):=by simp[Jp,vz]
abbrev wv:Type:=(Bool)×(Bool)×M×M×(Int)×M×(Bool)×(Int)×G
abbrev Km:Type:=(Bool)×(Bool)×M×M×(Int)×M×(Bool)×(Int)×(Bool)×(Bool)×M×M×(Int)×M×(Bool)×(Int)×G
theorem asg: ∀p∈e0,p.length<=4:=by decide
def mL (x y:M):Int:=if Op.bytesLess x y=true then-1 else if x=y then 0 else 1
theorem ai1 {x y:M}:(mL x y=0)↔x=y:=by
 unfold mL;split
 ·rename_i h;have:=lT h;simp[this]
 ·split<;>simp[*]
theorem abV: ∀(a b:M),Lib.compareBytes a b=mL a b
 |[],[]=>rfl
 |[],_::_=>rfl
 |_::_,[]=>rfl
 |a::x,b::y=>by
  have aQ:=abV x y;rw[Lib.compareBytes];unfold mL at aQ ⊢;simp only[Op.bytesLess];by_cases s:a<b
  ·simp[s]
  ·by_cases E:b<a
   ·have O:a≠b:=by rintro rfl;exact s E
    simp[s,E,O]
   ·have O:a=b:=UInt8.le_antisymm (UInt8.not_lt.1 E) (UInt8.not_lt.1 s);subst O;rw[if_neg s,if_neg s,aQ];simp
theorem aaT (p:b5) (k:M):ul (p,k,())=some (mL p.1 k,()):=by unfold ul Ty R6;simp only[abV]
theorem mq (n:cZ):tT (n,())=some (decide ((((n.2.2.1.length):Int):Int)=(0:Int)),()):=rfl
theorem FK (x:n5) (h:yU x): ∃k v f t d,rG (x,())=some (jz (Int.tmod x.1 6) k v f (od f t) d (i64.wrap (Int.tmod x.2.2.2.2.2.1 8)),())/\gX (jz (Int.tmod x.1 6) k v f (od f t) d (i64.wrap (Int.tmod x.2.2.2.2.2.1 8)))/\f∈e0/\t∈e0/\d.1.length<=200/\d.2.1.length<=200:=by
 obtain ⟨s,E,O,aC⟩:=h;obtain ⟨k,af,asX⟩:=abJ _ E;obtain ⟨l,ab,el⟩:=abJ _ aC;obtain ⟨v,aZ,c9⟩:=aqQ _ O;obtain ⟨f,aL,ac8⟩:=aaE _ E;obtain ⟨t,aT,oj⟩:=aaE _ aC;obtain ⟨t1,t2,t3⟩:=aiO f aL t aT;obtain ⟨_,asY,asZ⟩:=kO f (kk f aL);have L:oH (k,())=some ((k,k++[0],()),()):=by
  unfold oH;have hlen:jl.all (λk=>decide (k.length<100))=true:=by kernel_rfl
  have:=of_decide_eq_true (fy.1 hlen k af);have:k.length+([0]:M).length<=bp:=by rw[ek];simp;omega
  simp only[this,am,ak]
 have ayE:k.length<100:=by
  have hlen:jl.all (λk=>decide (k.length<100))=true:=by kernel_rfl
  exact of_decide_eq_true (fy.1 hlen k af)
 have ayF:l.length<100:=by
  have hlen:jl.all (λk=>decide (k.length<100))=true:=by kernel_rfl
  exact of_decide_eq_true (fy.1 hlen l ab)
 have atQ:(dF f).1.length<=200/\(dF f).2.1.length<=200:=by
  have hlen:e0.all (λp=>decide ((dF p).1.length<=200)&&decide ((dF p).2.1.length<=200))=true:=by kernel_rfl
  have:=fy.1 hlen f aL;simpa using this
 have fin: ∀d:aK,oN d->(d.1.length<=200/\d.2.1.length<=200)-> ∃cj lq l8 iB hD,(match nr (k,x,(0:Int),([]:M),([]:M),([]:M),([]:M),([]:M),([]:M),(0:Int),d,()) with
   |none=>none
   |some (.inl gg)=>some ((gg.1,(gg.2.1,(gg.2.2.1,(gg.2.2.2.1,(gg.2.2.2.2.1,(gg.2.2.2.2.2.1,(gg.2.2.2.2.2.2.1,()))))))),())
   |some (.inr gg)=>none)=some (jz (Int.tmod x.1 6) cj lq l8 (od l8 iB) hD (i64.wrap (Int.tmod x.2.2.2.2.2.1 8)),())/\gX (jz (Int.tmod x.1 6) cj lq l8 (od l8 iB) hD (i64.wrap (Int.tmod x.2.2.2.2.2.1 8)))/\l8∈e0/\iB∈e0/\hD.1.length<=200/\hD.2.1.length<=200:=by
  intro d ae vo;refine ⟨k,v,f,t,d,?_,aqU _ _ _ _ _ _ _ af aZ aL t1 ae t2 t3,aL,aT,vo⟩;rw[ajN k f t v x d c9 ac8 oj]
 unfold rG;simp only[asX,el,ac8,asY,L];cases decide (Int.tmod x.2.2.2.2.1 4=0) with
 |true=>exact fin _ (Pn asZ) atQ
 |false=>
  simp only[ax];cases decide (Int.tmod x.2.2.2.2.1 16=1) with
  |true=>exact fin _ (.inl rfl) ⟨by (try simp only[fr,List.length_nil,gn]);omega,by (try simp only[fr,List.length_nil,gn]);omega⟩
  |false=>
   simp only[ax];cases decide (Int.tmod x.2.2.2.2.1 16=5) with
   |true=>exact fin _ (.inl rfl) ⟨by (try simp only[fr,List.length_nil,gn]);omega,by (try simp only[fr,List.length_nil,gn]);omega⟩
   |false=>
    simp only[ax];by_cases hR:k=l
    ·simp only[am hR,ak];exact fin _ (.inr (UE k)) ⟨by (try simp only[fr,List.length_nil,gn]);omega,by (try simp only[fr,List.length_nil,gn]);omega⟩
    ·simp only[bf hR,ax];refine fin _ (Or.inr ?_) ?_
     rotate_left
     ·cases Op.bytesLess k l<;>simp<;>omega
     rcases h0 k l with h |h |h
     ·simp only[h,Bool.true_or,ak,cP,ax]
     ·exact absurd h hR
     ·simp only[d9 h,Bool.false_or,Bool.or_false,cK,ak,ax];exact h
def qo (x:n5):Prop:=yU x/\(0<=x.2.2.2.2.1/\x.2.2.2.2.1<256)/\0<=x.2.2.2.2.2.1/\x.2.2.2.2.2.1<256
def gy (m:bB):Prop:= ∃x:n5,qo x/\rG (x,())=some (m,())
theorem gy.ok {m:bB} (h:gy m):gX m:=by obtain ⟨x,ai,e⟩:=h;obtain ⟨k,v,f,t,d,aa,ok,-,-⟩:=FK x ai.1;have a1:=eW (e.symm.trans aa);have bq:m=_:=congrArg Prod.fst a1;rw[bq];exact ok
theorem aiw (l:List n5) (h: ∀x∈l,qo x) (n:Nat) (aR:n<=1000) (ab:l.length<10^18): ∃ms,Fx (l,(n:Int),())=some (ms,())/\ms.length<=n/\ ∀m∈ms,gy m:=by
 obtain ⟨z,s,ms,rfl,E,O⟩:=dM (b:=yP) (λi (out:cG)=>(l,(n:Int),(i:Int),out,())) (min l.length n) (λi out=>out.length=i/\ ∀m∈out,gy m) (λz=> ∃ms,z=.inl (ms,())/\ms.length<=n/\ ∀m∈ms,gy m) (by omega)
  (λi u out W=>by
   left;obtain ⟨x4,vj⟩:=W;have ix:i<l.length:=by omega
   obtain ⟨yw,e,ok⟩: ∃yw,rG (l[i],())=some (yw,())/\gy yw:=by obtain ⟨k,v,f,t,d,e,ok,-,-⟩:=FK l[i] (h _ (dz ix)).1;exact ⟨_,e,l[i],h _ (dz ix),e⟩
   refine ⟨out++[yw],⟨by rw[fr,x4];rfl,λm hm=> ?_⟩,?_⟩
   rotate_left
   ·have L:=fe (i:=i) (l:=l) (by omega);have aa:=dZ i;have a1:=e1 i (by omega);have bq:(decide (((i:Nat):Int)<(n:Int)))=true:=am (by omega);have cU: ∀x:bB,(decide ((out.length+List.length ([x]:List (bB)))*112<=bp))=true:=λx=>am (by rw[x4,ek];simp;omega)
    simp only[yP,Da,L,aa,bq,ak,bM,bE,bW ix,e,cU,a1]
   ·rcases dk.1 hm with hm |hm
    ·exact vj m hm
    ·rw[fJ.1 hm];exact ok)
  (λout W=>by
   obtain ⟨x4,vj⟩:=W;refine ⟨_,⟨out,rfl,by omega,vj⟩,?_⟩;rcases Nat.lt_or_ge (min l.length n) l.length with s |s
   ·have L:(decide (((min l.length n:Nat):Int)<((l.length):Int)))=true:=am (by omega);have bq:(decide (((min l.length n:Nat):Int)<(n:Int)))=false:=bf (by omega);simp only[yP,Da,L,bq,ak,ax]
   ·have L:(decide (((min l.length n:Nat):Int)<((l.length):Int)))=false:=bf (by omega);simp only[yP,Da,L,ax]) [] ⟨rfl,by simp⟩
 have dq:L8 (l,(n:Int),0,[],())=some (.inl (ms,())):=s;exact ⟨ms,by simp only[Fx,dq],E,O⟩
theorem Fq (l:List n5) (h: ∀x∈l,qo x) (d:aK) (ab:l.length<10^18): ∃ms,vO (l,d,(5:Int),())=some (ms,())/\ms.length<=5/\ ∀m∈ms,gy m/\kc (m,d,())=some (true,()):=by
 obtain ⟨all,s,E,O⟩:=aiw l h 15 (by omega) ab;obtain ⟨z,g1,ms,rfl,g2,g3⟩:=dM (b:=vC) (λi (out:cG)=>((5:Int),(i:Int),d,out,all,())) all.length (λi out=>out.length<=5/\ ∀m∈out,gy m/\kc (m,d,())=some (true,())) (λz=> ∃ms,z=.inl (ms,())/\ms.length<=5/\ ∀m∈ms,gy m/\kc (m,d,())=some (true,())) (by omega)
  (λi u out W=>by
   obtain ⟨x4,vj⟩:=W;have L:=fe (i:=i) (l:=all) (by omega);have aa:=dZ i;have a1:=e1 i (by omega);by_cases ba:out.length<5
   ·left;have bq:(decide ((((out.length):Int):Int)<(5:Int)))=true:=am (by omega);obtain ⟨r,au⟩:=aie (O all[i] (dz u)).ok d;have cU: ∀x:bB,(decide ((out.length+List.length ([x]:List (bB)))*112<=bp))=true:=λx=>am (by rw[ek];simp;omega)
    cases r with
    |false=>exact ⟨out,⟨x4,vj⟩,by simp only[vC,ym,L,aa,bq,ak,ax,bM,bE,bW u,au,a1]⟩
    |true=>
     refine ⟨out++[all[i]],⟨by simp;omega,λm hm=> ?_⟩,by simp only[vC,ym,L,aa,bq,ak,ax,bM,bE,bW u,au,cU,a1]⟩;rcases dk.1 hm with hm |hm
     ·exact vj m hm
     ·rw[fJ.1 hm];exact ⟨O _ (dz u),au⟩
   ·right;have bq:(decide ((((out.length):Int):Int)<(5:Int)))=false:=bf (by omega);exact ⟨_,⟨out,rfl,x4,vj⟩,by simp only[vC,ym,L,bq,ak,ax]⟩)
  (λout W=>by have L:=ga all;exact ⟨_,⟨out,rfl,W.1,W.2⟩,by simp only[vC,ym,L,ax]⟩) [] ⟨by simp,by simp⟩
 have j0:Ta (5,0,d,[],all,())=some (.inl (ms,())):=g1;have dp:i64.wrap ((3:Int)*5)=((15:Nat):Int):=by rw[cI (by omega)];rfl
 exact ⟨ms,by simp only[vO,dp,s,j0],g2,g3⟩
def cl (P:bc) (d:aK):bc:=P.filter λk=>(!(Op.bytesLess k d.1||decide (k=d.1)))&&b9 d k
def partsOf (d:aK) (m:bc):aq:=((za (d,m,())).map (·.1)).getD []
theorem ux (P:bc) (d:aK):(cl P d).length<=P.length:=hE _ _
theorem Ot (d:aK) (m:bc) (ab:m.length<=10^5):za (d,m,())=some (partsOf d m,())/\(partsOf d m).length=m.length+1:=by
 obtain ⟨l,s,E⟩:=asf d m ab;have e:partsOf d m=l:=by unfold partsOf;rw[s];rfl
 rw[e];exact ⟨s,E⟩
theorem ajk (n:cZ) (d:aK) (b8:n.2.2.1≠[]) (ab:n.2.1.length<=10^5):El (n,d,())=some (partsOf d n.2.1,()):=by
 obtain ⟨s,E⟩:=Ot d n.2.1 ab;have b6:(decide ((((n.2.2.1.length):Int):Int)=(0:Int)))=false:=bf (by have:=List.length_pos_iff.2 b8;omega)
 simp only[El,b6,ax,s]
theorem arP (r:rY) (t:aj) (ay:List bc) (p:bZ) (d:aK) (x:e4) (b8:0<ay.length) (ab:(ay.getD 0 []).length<=100):
  Ju r (t,ay,0,p,d,x,[],0,[],())=some (.inl (t,ay,p,d,x,[],0,cl (ay.getD 0 []) d,())):=by
 obtain ⟨P,hN⟩: ∃P,ay.getD 0 []=P:=⟨_,rfl⟩;rw[hN]at ab ⊢;obtain ⟨z,s,rfl⟩:=dM (b:=yE r) (λi (gd:bc)=>(t,ay,(i:Int),p,d,x,[],0,gd,())) P.length (λi gd=>gd=cl (P.take i) d) (λz=>z=.inl (t,ay,p,d,x,[],0,cl P d,())) (by omega)
  (λi u gd hm=>by
   left;have b6:(decide (((0:Int):Int)<(ay.length:Int)))=true:=am (by omega);have L:=fe (i:=i) (l:=P) (by omega);have aa:=dZ i;have a1:=e1 i (by omega);have j6:gd.length<=i:=by rw[hm];have:=ux (P.take i) d;rw[eG]at this;omega
   have cU: ∀k:M,(decide ((gd.length+List.length ([k]:bc))*16<=bp))=true:=λk=>am (by rw[ek];simp;omega)
   have ae:cl (P.take (i+1)) d=gd++cl [P[i]] d:=by rw[eY u,hm];unfold cl;rw[List.filter_append]
   simp only[yE,SX,b6,L,aa,hN,ak,bM,bE,bW u,acU,cU,a1];unfold cl at ae;simp only[List.filter_cons,List.filter_nil]at ae;cases E:(!(Op.bytesLess P[i] d.1||decide ((P[i]:M)=d.1)))
   ·rw[E]at ae;exact ⟨gd,by unfold cl;rw[ae];simp,by simp only[ax]⟩
   ·rw[E]at ae;cases O:b9 d P[i]
    ·rw[O]at ae;exact ⟨gd,by unfold cl;rw[ae];simp,by simp only[ak,ax]⟩
    ·rw[O]at ae;exact ⟨gd++[P[i]],by unfold cl;rw[ae];simp,by simp only[ak]⟩)
  (λgd hm=>by have b6:(decide (((0:Int):Int)<(ay.length:Int)))=true:=am (by omega);have L:=ga P;rw[eM]at hm;subst hm;exact ⟨_,rfl,by simp only[yE,b6,L,hN,ak,ax]⟩) [] rfl
 exact s
def qC (V:da) (k:Nat) (d:eQ):Prop:= ∃kid,V[k]? =some kid/\m4 (kid,())=some (d,())
abbrev cO:aK:=(([]:M),(([]:M),()))
abbrev nR:eQ:=(((0:Int),((0:Int),())),(((0:Int),((0:Int),())),()))
def hp (V:da) (t:aj):List bc->aK->Nat->Prop
 |[],d,i=>V[i]? =some (inS d t,[],[],[],[],())
 |P::ay,d,i=> ∃(ks:fh) (sums:hH) (buf:cG),
   V[i]? =some ([],cl P d,bP ks,sums,buf,())/\ks.length=(cl P d).length+1/\sums.length=ks.length/\ks.Nodup/\(∀k∈ks,k<i)/\
   buf.length<=5/\(∀m∈buf,gy m/\kc (m,d,())=some (true,()))/\
   ∀j,j<ks.length->hp V t ay (List.getD (partsOf d (cl P d)) j cO) (ks.getD j 0)/\qC V (ks.getD j 0) (sums.getD j nR)
theorem qC.app {V:da} (l:da) {k:Nat} {d:eQ} (h:qC V k d):qC (V++l) k d:=by obtain ⟨n,s,E⟩:=h;refine ⟨n,?_,E⟩;rw[List.getElem?_append_left (iC.1 s).1];exact s
theorem hp.app {V:da} {t:aj} (l:da): ∀{ay:List bc} {d:aK} {i:Nat},hp V t ay d i->hp (V++l) t ay d i
 |[],d,i,h=>by show (V++l)[i]? =_;rw[List.getElem?_append_left (iC.1 h).1];exact h
 |P::ay,d,i,⟨ks,sums,buf,s,E,O,aC,ba,bF,dN,ig⟩=>by refine ⟨ks,sums,buf,?_,E,O,aC,ba,bF,dN,λj an=>⟨hp.app l (ig j an).1,(ig j an).2.app l⟩⟩;rw[List.getElem?_append_left (iC.1 s).1];exact s
theorem hp.ok {V:da} {t:aj} (aT:wN t): ∀{ay:List bc} {d:aK} {i:Nat},(∀q∈ay,q.length<=5)->hp V t ay d i->pN V (ay.length+1) i
 |[],d,i,aD,h=>⟨_,h,.inl ⟨rfl,rfl,by have:=sc d t;have:=aT.len;show (inS d t).length<=1000;omega,λp aP=>aT.key p (eV.1 aP).1⟩⟩
 |P::ay,d,i,aD,⟨ks,sums,buf,s,E,O,aC,ba,bF,dN,ig⟩=>by have hN:=aD P gh;have hm:=ux P d;refine ⟨_,s,.inr ⟨by simp,ks,rfl,E,by show (cl P d).length<=100;omega,by show sums.length<=1000;omega,bF,λm hm=>(dN m hm).1.ok,λk af=> ?_⟩⟩;obtain ⟨j,an,rfl⟩:=List.mem_iff_getElem.1 af;have:=(ig j an).1;rw[bW an]at this;exact hp.ok aT (λq jN=>aD q (gO _ jN)) this
theorem hp.lt {V:da} {t:aj}: ∀{ay:List bc} {d:aK} {i:Nat},hp V t ay d i->i<V.length
 |[],d,i,h=>(iC.1 h).1
 |P::ay,d,i,⟨ks,sums,buf,s,_⟩=>(iC.1 s).1
theorem M8 {α:Type} {l:List α} {x I:α} {j:Nat} (h:j<l.length):List.getD (l++[x]) j I=l.getD j I:=by simp[List.getD,List.getElem?_append_left h]
theorem M7 {α:Type} {l:List α} {x I:α} {j:Nat} (h:j=l.length):List.getD (l++[x]) j I=x:=by subst h;simp[List.getD]
def tK:List bc->aK->Nat
 |[],_=>1
 |P::ay,d=>1+((partsOf d (cl P d)).map (tK ay)).sum
def xi (n:cZ):Prop:=n.1.length<=1000/\n.2.1.length<=1000/\n.2.2.1.length<=1000/\n.2.2.2.1.length<=1000/\n.2.2.2.2.1.length<=1000
def AN (r:rY) (t:aj) (x:e4) (ay:List bc) (c:Nat):Prop:=
 ∀(V:da) (d:aK),V.length+c<=900->
  ∃l i,r ((mk V (λ_=>1),()),t,d,ay,x,())=some (((mk (V++l) (λ_=>1),()),((i:Nat):Int),()),())/\l.length<=c/\V.length<=i/\hp (V++l) t ay d i/\tK ay d<=l.length/\ ∀n∈l,xi n
theorem arQ (r:rY) (t:aj) (aT:wN t) (x:e4) (P:bc) (ay:List bc) (aD: ∀q∈ay,q.length<=5) (c:Nat) (au:AN r t x ay c) (V:da) (d:aK) (parts:aq) (gd:bc) (aP:parts.length<=6) (aR:V.length+parts.length*c<=900) (ayO:ay.length<=100):
  ∃q:Kd,Jv r (t,P::ay,0,(mk V (λ_=>1),()),d,x,[],0,[],[],parts,gd,[],[],())=some (.inl ((mk (V++q.l) (λ_=>1),()),d,x,[],0,[],[],gd,bP q.ks,q.sums,()))/\
   q.l.length<=parts.length*c/\q.ks.length=parts.length/\q.sums.length=parts.length/\q.ks.Nodup/\(∀k∈q.ks,k<(V++q.l).length)/\(∀j,j<parts.length->hp (V++q.l) t ay (parts.getD j cO) (q.ks.getD j 0)/\qC (V++q.l) (q.ks.getD j 0) (q.sums.getD j nR))/\(parts.map (tK ay)).sum<=q.l.length/\ ∀n∈q.l,xi n:=by
 obtain ⟨z,s,q,rfl,E⟩:=dM (b:=vG r) (λi (q:Kd)=>(t,P::ay,(i:Int),(mk (V++q.l) (λ_=>1),()),d,x,[],0,[],[],parts,gd,bP q.ks,q.sums,())) parts.length
  (λi q=>q.l.length<=i*c/\q.ks.length=i/\q.sums.length=i/\q.ks.Nodup/\(∀k∈q.ks,k<(V++q.l).length)/\(∀j,j<i->hp (V++q.l) t ay (parts.getD j cO) (q.ks.getD j 0)/\qC (V++q.l) (q.ks.getD j 0) (q.sums.getD j nR))/\((parts.take i).map (tK ay)).sum<=q.l.length/\ ∀n∈q.l,xi n)
  (λz=> ∃q:Kd,z=.inl ((mk (V++q.l) (λ_=>1),()),d,x,[],0,[],[],gd,bP q.ks,q.sums,())/\q.l.length<=parts.length*c/\q.ks.length=parts.length/\q.sums.length=parts.length/\q.ks.Nodup/\(∀k∈q.ks,k<(V++q.l).length)/\(∀j,j<parts.length->hp (V++q.l) t ay (parts.getD j cO) (q.ks.getD j 0)/\qC (V++q.l) (q.ks.getD j 0) (q.sums.getD j nR))/\(parts.map (tK ay)).sum<=q.l.length/\ ∀n∈q.l,xi n) (by omega)
  (λi u q po=>by
   left;obtain ⟨dY,a2,a3,a4,a5,oa,zY,KX⟩:=po;have hmul:i*c+c<=parts.length*c:=by have:(i+1)*c<=parts.length*c:=gW c u;rw[Nat.add_mul]at this;omega
   have L:=fe (i:=i) (l:=parts) (by omega);have aa:=dZ i;have a1:=e1 i (by omega);have bq:(decide (((1:Int):Int)<=(List.length (P::ay):Int))&&decide (((List.length (P::ay):Int):Int)<=(List.length (P::ay):Int)))=true:=by rw[am (by simp;omega),am (Int.le_refl _)];rfl
   have cU:List.drop (Int.toNat (1:Int)) (List.take (List.length (P::ay)) (P::ay))=ay:=by rw[eM];rfl
   obtain ⟨l,j,b1,b2,b3,hs,hI,jY⟩:=au (V++q.l) parts[i] (by simp;omega);have an:=hs.lt;have dp:=NL (r:=λ_=>1) an;obtain ⟨Jh,h6⟩:=(hs.ok aT aD).sum _ (hg an);have h1:(decide ((List.length (bP q.ks)+List.length ([((j:Nat):Int)]:List (Int)))*8<=bp))=true:=am (by rw[fL,ek];simp;omega);have lG: ∀y:eQ,(decide ((q.sums.length+List.length ([y]:List (eQ)))*32<=bp))=true:=λy=>am (by rw[ek];simp;omega)
   have o7:bP q.ks++[((j:Nat):Int)]=bP (q.ks++[j]):=by simp[bP]
   refine ⟨⟨q.l++l,q.ks++[j],q.sums++[Jh.1]⟩,⟨by simp only[fr];rw[Nat.add_mul];omega,by simp[a2],by simp[a3],?_,?_,?_,?_,λn aR=>(dk.1 aR).elim (KX n) (jY n)⟩,?_⟩
   ·rw[List.nodup_append];refine ⟨a4,by simp,?_⟩;intro a aS b J;have:=a5 a aS;simp only[fJ]at J;omega
   ·intro k af;rw[<-List.append_assoc];rcases dk.1 af with af |af
    ·have:=a5 k af;rw[fr];omega
    ·rw[fJ.1 af];exact an
   ·intro k af;rw[<-List.append_assoc];show hp _ t ay _ (List.getD (q.ks++[j]) k 0)/\qC _ (List.getD (q.ks++[j]) k 0) (List.getD (q.sums++[Jh.1]) k nR);rcases Nat.lt_or_ge k i with h |h
    ·rw[M8 (by omega),M8 (by omega)];exact ⟨(oa k h).1.app l,(oa k h).2.app l⟩
    ·have Cv:k=i:=by omega
     subst Cv;rw[M7 (by omega),M7 (by omega),bW u];exact ⟨hs,_,hg an,h6⟩
   ·rw[eY u,List.map_append,List.sum_append];simp only[List.map_cons,List.map_nil,List.sum_cons,List.sum_nil,fr];omega
   ·have BX:m4 ((V++q.l++l)[j],())=some (Jh.1,()):=h6;show vG r _=some (Sum.inl (t,P::ay,((i+1:Nat):Int),(mk (V++(q.l++l)) (λ_=>1),()),d,x,[],0,[],[],parts,gd,bP (q.ks++[j]),q.sums++[Jh.1],()));rw[show V++(q.l++l)=V++q.l++l from (List.append_assoc _ _ _).symm];simp only[vG,L,aa,bq,cU,ak,bM,bE,bW u,b1,dp,h1,BX,lG,a1,o7])
  (λq po=>by have L:=ga parts;obtain ⟨dY,a2,a3,a4,a5,oa,zY,KX⟩:=po;rw[eM]at zY;exact ⟨_,⟨q,rfl,dY,a2,a3,a4,a5,oa,zY,KX⟩,by simp only[vG,L,ax]⟩) ⟨[],[],[]⟩ ⟨by simp,rfl,rfl,List.nodup_nil,by simp,λj an=>by omega,by simp,by simp⟩
 refine ⟨q,?_,E⟩;have dq:=s;simp only[List.append_nil]at dq;exact dq
structure EX (x:e4):Prop where
 b0:(∀y∈x.2.1.1,qo y)/\x.2.1.1.length<10^18
 b1:(∀y∈x.2.1.2.1,qo y)/\x.2.1.2.1.length<10^18
 b2:(∀y∈x.2.1.2.2.1,qo y)/\x.2.1.2.2.1.length<10^18
 b3:(∀y∈x.2.1.2.2.2.1,qo y)/\x.2.1.2.2.2.1.length<10^18
theorem arO (r:rY) (x:e4) (ai:EX x) (w:Nat) (hw:w<4) (p:bZ) (d:aK) (piv:bc) (kids:dR) (sums:hH):
  ∃buf:cG,buf.length<=5/\(∀m∈buf,gy m/\kc (m,d,())=some (true,()))/\Dn r ((w:Int),p,d,x,[],0,[],[],piv,kids,sums,())=vH r (p,[],0,[],piv,kids,sums,buf,()):=by
 obtain ⟨f0,a0,dY,a2⟩:=Fq _ ai.b0.1 d ai.b0.2;obtain ⟨f1,GZ,a7,aX⟩:=Fq _ ai.b1.1 d ai.b1.2;obtain ⟨f2,d0,d1,d2⟩:=Fq _ ai.b2.1 d ai.b2.2;obtain ⟨f3,g0,g1,g2⟩:=Fq _ ai.b3.1 d ai.b3.2;have L:=dZ w;have aa:(decide ((w:Int)<4))=true:=am (by omega);simp only[Dn,L,aa,ak,bM,bE]
 match w,hw with
 |0,_=>exact ⟨f0,dY,a2,by simp only[a0];rfl⟩
 |1,_=>exact ⟨f1,a7,aX,by simp only[GZ];rfl⟩
 |2,_=>exact ⟨f2,d1,d2,by simp only[d0];rfl⟩
 |3,_=>exact ⟨f3,g1,g2,by simp only[g0];rfl⟩
theorem apC (r:rY) (t:aj) (x:e4) (aT:wN t):AN (vB r) t x [] 1:=by
 intro V d aR;have b6:(decide ((((List.length ([]:List bc)):Int):Int)>(0:Int)))=false:=rfl;have L:(decide ((((List.length ([]:List bc)):Int):Int)=(0:Int)))=true:=rfl;have aa:=ahR t d (by have:=aT.len;omega);have a1:=acP (V:=V) (n:=(inS d t,[],[],[],[],())) (ks:=[]) rfl (by simp) List.nodup_nil (by simp) (by omega);have bq:mk (V++[(inS d t,[],[],[],[],())]) (λj=>if j∈([]:fh) then 2 else 1)=mk (V++[(inS d t,[],[],[],[],())]) (λ_=>1):=AD λj _=>by simp
 rw[bq]at a1;refine ⟨[(inS d t,[],[],[],[],())],V.length,?_,by simp,b7 _,?_,by simp[tK],λn aR=> ?_⟩
 ·simp only[vB,b6,ax,Jt,L,ak,aa,a1]
 ·show (V++[_])[V.length]? =_;simp
 ·rw[fJ.1 aR];have:=sc d t;have:=aT.len;exact ⟨by show (inS d t).length<=1000;omega,by simp,by simp,by simp,by simp⟩
theorem apD (r:rY) (t:aj) (aT:wN t) (x:e4) (ai:EX x) (P:bc) (ay:List bc) (hN:P.length<=5) (aD: ∀q∈ay,q.length<=5) (kJ:ay.length<=100) (c:Nat) (au:AN r t x ay c):AN (vB r) t x (P::ay) (1+6*c):=by
 intro V d aR;have b6:(decide ((((List.length (P::ay)):Int):Int)>(0:Int)))=true:=am (by simp);have L:(decide ((((List.length (P::ay)):Int):Int)=(0:Int)))=false:=bf (by simp;omega);have dU:=arP r t (P::ay) (mk V (λ_=>1),()) d x (by simp) (by show P.length<=100;omega);have bu:List.getD (P::ay) 0 []=P:=rfl;rw[bu]at dU;have hm:(cl P d).length<=5:=Nat.le_trans (ux P d) hN;obtain ⟨gd,vh⟩: ∃m,cl P d=m:=⟨_,rfl⟩;rw[vh]at dU hm;have aa:i64.wrap (((gd.length):Int)+1)=((gd.length+1:Nat):Int):=by rw[cI (by omega)];omega
 have a1:(decide ((0:Int)<=((gd.length+1:Nat):Int))&&decide (((gd.length+1:Nat):Int)<=((gd.length+1:Nat):Int))&&decide (((gd.length+1:Nat):Int)*(8:Int)<=(bp:Int)))=true:=by rw[am (by omega),am (by omega),am (by rw[ek];omega)];rfl
 have fU:=ajk ([],gd,List.replicate (gd.length+1) (0:Int),[],[],()) d (by simp[List.replicate_succ]) (by show gd.length<=10^5;omega);have fU:El (([],gd,List.replicate (gd.length+1) (0:Int),[],[],()),d,())=some (partsOf d gd,()):=fU;have fV:=(Ot d gd (by omega)).2;obtain ⟨parts,x7⟩: ∃p,partsOf d gd=p:=⟨_,rfl⟩;rw[x7]at fU fV;have hmul:parts.length*c<=6*c:=gW c (by omega);obtain ⟨q,bj,bG,dm,cJ,fW,hU,m8,yM,awd⟩:=arQ r t aT x P ay aD c au V d parts gd (by omega) (by omega) kJ;have fin: ∀w:Nat,w<4-> ∃l i,Dn r ((w:Int),(mk (V++q.l) (λ_=>1),()),d,x,[],0,[],[],gd,bP q.ks,q.sums,())=some (((mk (V++l) (λ_=>1),()),((i:Nat):Int),()),())/\l.length<=1+6*c/\V.length<=i/\hp (V++l) t (P::ay) d i/\tK (P::ay) d<=l.length/\ ∀n∈l,xi n:=by
  intro w hw;obtain ⟨buf,b1,b2,b3⟩:=arO r x ai w hw (mk (V++q.l) (λ_=>1),()) d gd (bP q.ks) q.sums;have hs:=arX r (V++q.l) q.ks hU fW (by simp;omega) (by omega) gd q.sums buf;refine ⟨q.l++[([],gd,bP q.ks,q.sums,buf,())],(V++q.l).length,?_,by simp;omega,by simp,?_,?_,?_⟩
  ·rw[b3,hs,List.append_assoc]
  ·rw[<-List.append_assoc];refine ⟨q.ks,q.sums,buf,by rw[vh,List.getElem?_append_right (b7 _)];simp,by rw[vh];omega,by omega,fW,hU,b1,b2,λj an=> ?_⟩;rw[vh,x7];exact ⟨(m8 j (by omega)).1.app _,(m8 j (by omega)).2.app _⟩
  ·show 1+_<=_;rw[vh,x7];simp;omega
  ·intro n aR;rcases dk.1 aR with aR |aR
   ·exact awd n aR
   ·rw[fJ.1 aR];exact ⟨by simp,by show gd.length<=1000;omega,by show (bP q.ks).length<=1000;rw[fL];omega,by show q.sums.length<=1000;omega,by show buf.length<=1000;omega⟩
 have hw:Int.tmod ((d.1.length):Int) 3=((d.1.length%3:Nat):Int):=by rw[Int.tmod_eq_emod_of_nonneg (by omega)];omega
 have bq:i64.wrap ((1:Int)+((d.1.length%3:Nat):Int))=((1+d.1.length%3:Nat):Int):=by rw[cI (by omega)];omega
 simp only[vB,b6,ak,dU,Jt,L,ax,aa,a1,bE,fU,bj,hw,bq];cases (!(aB.eqb ac d (([]:M),(([]:M),()))))
 ·exact fin 0 (by omega)
 ·exact fin _ (by omega)
theorem Zx (t:aj) (x:e4) (aT:wN t) (ai:EX x): ∀(ay:List bc) (n:Nat),ay.length+1<=n->ay.length<=100->(∀q∈ay,q.length<=5)->AN (mt n) t x ay (cap ay.length)
 |_,0,h,_,_=>by omega
 |[],n+1,_,_,_=>apC (mt n) t x aT
 |P::ay,n+1,h,s,E=>apD (mt n) t aT x ai P ay (E P gh) (λq aD=>E q (gO _ aD)) (by simp at s;omega) (cap ay.length) (Zx t x aT ai ay n (by simp at h;omega) (by simp at s;omega) (λq aD=>E q (gO _ aD)))
structure Bk (x:e4):Prop where
 xok:EX x
 t:(∀y∈x.1,rI y)/\x.1.length<10^18
 w:0<=x.2.2.1/\x.2.2.1<256
def oY (x:e4):aj:=mJ (x.1.take 40)
def jX (x:e4):List bc:=nd.getD (x.2.2.1.toNat%4) []
theorem GK (x:e4):jX x∈nd:=by have hw:x.2.2.1.toNat%4<nd.length:=Nat.mod_lt _ (by decide);unfold jX;rw[bW hw];exact dz hw
theorem FY: ∀ay∈nd,ay.length<=2/\ ∀q∈ay,q.length<=5:=by decide
theorem ah6 (x:e4) (h:Bk x): ∃V root,Fz (x,())=some (((mk V (λ_=>1),()),(((root:Nat):Int),(pD x.2.2.1,()))),())/\hp V (oY x) (jX x) cO root/\V.length<=43/\tK (jX x) cO<=V.length/\ ∀n∈V,xi n:=by
 have b6:=arD x.1 h.t.1 h.t.2;have aT:=aj9 x.1 h.t.1;obtain ⟨dD,dr⟩:=FY _ (GK x);have L:i64.wrap (Int.tmod x.2.2.1 (4:Int))=((x.2.2.1.toNat%4:Nat):Int):=by have:=h.w;rw[Int.tmod_eq_emod_of_nonneg this.1,cI (by omega)];omega
 have Rz:x.2.2.1.toNat%4<4:=Nat.mod_lt _ (by decide);have aw:cap (jX x).length<=43:=by
  match (jX x).length,dD with
  |0,_=>decide
  |1,_=>decide
  |2,_=>decide
 obtain ⟨l,i,b1,b2,b3,hs,hI,jY⟩:=Zx (oY x) x aT h.xok (jX x) kZ (by rw[kN];omega) (by omega) dr [] cO (by simp;omega);have acY:Fc ((([]:List (jb)),()),oY x,cO,jX x,x,())=some (((mk ([]++l) (λ_=>1),()),((i:Nat):Int),()),()):=b1;have aa:(decide ((0:Int)<=((x.2.2.1.toNat%4:Nat):Int)))=true:=am (by omega);have a1:(decide (((x.2.2.1.toNat%4:Nat):Int)<(nd.length:Int)))=true:=am (by have:nd.length=4:=rfl;omega);refine ⟨[]++l,i,?_,hs,by simp;omega,by simpa using hI,by simpa using jY⟩;unfold jX oY at acY;rw[aih];simp only[b6,L,aa,a1,bM,ak,bE,acY]
def xn (k:M):Nat:=match pw (k,()) with
 |some (p,e,_)=>bif !decide (e=0) then 0 else bif decide (p.2.1=1) then 1 else bif decide (p.2.1=4) then 0 else 2
 |none=>9
def mK (k:M):Nat:=match tq (k,()) with
 |some (p,e,_)=>bif !decide (e=0) then 0 else bif decide (p.2.1=1) then 1 else bif decide (p.2.1=2) then 2 else bif decide (p.2.1=3) then 2 else 0
 |none=>9
def qO (c n:Nat):tM:=match c with
 |1=>((1,(0,())),())
 |2=>((0,((n:Int),())),())
 |_=>((0,(0,())),())
theorem asJ {p:b5} (h:xn p.1≠9):Kb (p,())=some (qO (xn p.1) p.2.1.length):=by
 unfold xn at h ⊢;simp only[Kb];cases e:pw (p.1,()) with
 |none=>rw[e]at h;exact absurd rfl h
 |some r=>
  obtain ⟨q,x,ad⟩:=r;simp only;cases (!decide (x=0))
  ·simp only[ax];cases decide (q.2.1=1)
   ·simp only[ax];cases decide (q.2.1=4)<;>rfl
   ·rfl
  ·rfl
theorem asK {p:b5} (h:mK p.1≠9):yW (p,())=some (qO (mK p.1) p.2.1.length):=by
 unfold mK at h ⊢;simp only[yW];cases e:tq (p.1,()) with
 |none=>rw[e]at h;exact absurd rfl h
 |some r=>
  obtain ⟨q,x,ad⟩:=r;simp only;cases (!decide (x=0))
  ·simp only[ax];cases decide (q.2.1=1)
   ·simp only[ax];cases decide (q.2.1=2)
    ·simp only[ax];cases decide (q.2.1=3)<;>rfl
    ·rfl
   ·rfl
  ·rfl
theorem aju (n:Int) (b8:0<=n) (s:n<256):xn (lW n)=mK (lW n)/\mK (lW n)<=2:=by
 obtain ⟨m,rfl⟩:=Int.eq_ofNat_of_zero_le b8;have aw:(List.range 256).all (λk=>decide (xn (lW ((k:Nat):Int))=mK (lW ((k:Nat):Int)))&&decide (mK (lW ((k:Nat):Int))<=2))=true:=by kernel_rfl
 have:=fy.1 aw m (List.mem_range.2 (by omega));simpa using this
def Kl (p:b5):Prop:=xn p.1=mK p.1/\mK p.1<=2/\p.2.1.length<=64
theorem Pe {c n:Nat} (aR:n<=64):(0<=(qO c n).1.1/\(qO c n).1.1<=64)/\0<=(qO c n).1.2.1/\(qO c n).1.2.1<=64:=by unfold qO;split<;>simp<;>omega
theorem ajm (l:aj) (h: ∀p∈l,Kl p) (ab:l.length<=10^6):
  ∃a b:Int,E6 (l,())=some ((a,(b,())),())/\zb (l,())=some ((a,(b,())),())/\(0<=a/\a<=64*l.length)/\0<=b/\b<=64*l.length:=by
 let st:Int×Int->b5->Int×Int:=λq p=>(q.1+(qO (mK p.1) p.2.1.length).1.1,q.2+(qO (mK p.1) p.2.1.length).1.2.1)
 let F:Nat->Int×Int:=λi=>(l.take i).foldl st (0,0)
 have e7: ∀i,(u:i<l.length)->F (i+1)=st (F i) l[i]:=λi u=>by show (l.take (i+1)).foldl st (0,0)=_;rw[eY u,List.foldl_append];rfl
 have di: ∀i,i<=l.length->(0<=(F i).1/\(F i).1<=64*i)/\0<=(F i).2/\(F i).2<=64*i:=by
  intro i
  induction i with
  |zero=>intro _;exact ⟨⟨Int.le_refl _,by simp[F]⟩,Int.le_refl _,by simp[F]⟩
  |succ i aQ=>
   intro u;have s:=aQ (by omega);have E:=Pe (c:=mK l[i].1) (h l[i] (dz (by omega))).2.2;rw[e7 i (by omega)];simp only[st];omega
 obtain ⟨z,g1,rfl⟩:=dM (b:=Dj) (λi (q:Int×Int)=>(l,(l.length:Int),(i:Int),0,0,q.1,q.2,())) l.length (λi q=>q=F i) (λz=>z=.inl (0,0,(F l.length).1,(F l.length).2,())) (by omega)
  (λi u q aD=>by left;subst aD;obtain ⟨fU,fV,nN⟩:=h l[i] (dz u);have aw:=asJ (p:=l[i]) (by omega);have J:=di i (by omega);have hu:=Pe (c:=mK l[i].1) nN;have L:=fe (i:=i) (l:=l) (by omega);have aa:=dZ i;have a1:=e1 i (by omega);rw[fU]at aw;refine ⟨F (i+1),rfl,?_⟩;rw[e7 i u];simp only[Dj,L,aa,ak,bM,bE,bW u,aw,a1,st];rw[cI (by omega),cI (by omega)])
  (λq aD=>by subst aD;have L:=ga l;exact ⟨_,rfl,by simp only[Dj,L,ax]⟩) (0,0) rfl
 obtain ⟨z,g2,rfl⟩:=dM (b:=s6) (λi (q:Int×Int)=>(l,(i:Int),0,0,q.1,q.2,())) l.length (λi q=>q=F i) (λz=>z=.inl (0,0,(F l.length).1,(F l.length).2,())) (by omega)
  (λi u q aD=>by left;subst aD;obtain ⟨fU,fV,nN⟩:=h l[i] (dz u);have aw:=asK (p:=l[i]) (by omega);have J:=di i (by omega);have hu:=Pe (c:=mK l[i].1) nN;have L:=fe (i:=i) (l:=l) (by omega);have aa:=dZ i;have a1:=e1 i (by omega);refine ⟨F (i+1),rfl,?_⟩;rw[e7 i u];simp only[s6,L,aa,ak,bM,bE,bW u,aw,a1,st];rw[cI (by omega),cI (by omega)])
  (λq aD=>by subst aD;have L:=ga l;exact ⟨_,rfl,by simp only[s6,L,ax]⟩) (0,0) rfl
 have j0:KY (l,(l.length:Int),0,0,0,0,0,())=some (.inl (0,0,(F l.length).1,(F l.length).2,())):=g1;have as0:JC (l,0,0,0,0,0,())=some (.inl (0,0,(F l.length).1,(F l.length).2,())):=g2;have J:=di l.length (b7 _);exact ⟨(F l.length).1,(F l.length).2,by simp only[E6,j0],by simp only[zb,as0],J.1,J.2⟩
def jS (d:eQ):Prop:=(0<=d.1.1/\d.1.1<=d.1.2.1/\d.1.2.1<=1000000000000000)/\0<=d.2.1.1/\d.2.1.1<=d.2.1.2.1/\d.2.1.2.1<=1000000000000000
theorem asd {n:cZ} (b8:n.2.2.1=[]) (h: ∀p∈n.1,Kl p) (ab:n.1.length<=10^6): ∃d,uz (n,())=some (d,())/\m4 (n,())=some (d,())/\jS d:=by
 obtain ⟨a,b,s,E,O,aC⟩:=ajm n.1 h ab;have L:(decide ((((n.2.2.1.length):Int):Int)=(0:Int)))=true:=by rw[b8];rfl
 refine ⟨((a,(a,())),((b,(b,())),())),by simp only[uz,L,ak,s],by simp only[m4,L,ak,E,Fa],?_⟩;show (0<=a/\a<=a/\a<=_)/\0<=b/\b<=b/\b<=_;omega
theorem gy.form {m:bB} (h:gy m): ∃a k v f t d n,m=jz a k v f t d n/\(0<=a/\a<6)/\(0<=n/\n<8)/\d.1.length<=200/\d.2.1.length<=200:=by
 obtain ⟨x,⟨ai,-,s,E⟩,e⟩:=h;obtain ⟨k,v,f,t,d,aa,-,-,-,dD,dr⟩:=FK x ai;have bq:m=_:=congrArg Prod.fst (eW (e.symm.trans aa));have O:=ai.1;refine ⟨_,k,v,f,_,d,_,bq,?_,?_,dD,dr⟩
 ·rw[Int.tmod_eq_emod_of_nonneg O.1];omega
 ·rw[Int.tmod_eq_emod_of_nonneg s,cI (by omega)];omega
def ht (x:Int):Int:=if x<0 then 0 else if 1000000000000000<x then 1000000000000000 else x
def gK (x:Int):Int:=if 1000000000000000<x then 1000000000000000 else x
theorem Be {aM u a b:Int} (c I:Int) (s: -1000000000000000<=aM/\aM<=1000000000000000) (E:0<=u/\u<=1000000000000000) (O:0<=a/\a<=1000000000000000) (aC:0<=b/\b<=1000000000000000):
  tz (aM,u,a,b,c,I,())=some (ht (a+aM),gK (b+u),c,I,()):=by
 have L:i64.wrap (a+aM)=a+aM:=cI (by omega);have aa:i64.wrap (b+u)=b+u:=cI (by omega);have a1:(if (1000000000000000:Int)<(if a+aM<0 then 0 else a+aM) then (1000000000000000:Int) else (if a+aM<0 then 0 else a+aM))=ht (a+aM):=by
  unfold ht;by_cases h:a+aM<0
  ·simp[h]
  ·simp[h]
 simp only[tz,L,aa,a1];rfl
theorem Bc {aM u c I:Int} (a b:Int) (s: -1000000000000000<=aM/\aM<=1000000000000000) (E:0<=u/\u<=1000000000000000) (O:0<=c/\c<=1000000000000000) (aC:0<=I/\I<=1000000000000000):
  tc (aM,u,a,b,c,I,())=some (a,b,ht (c+aM),gK (I+u),()):=by
 have L:i64.wrap (c+aM)=c+aM:=cI (by omega);have aa:i64.wrap (I+u)=I+u:=cI (by omega);have a1:(if (1000000000000000:Int)<(if c+aM<0 then 0 else c+aM) then (1000000000000000:Int) else (if c+aM<0 then 0 else c+aM))=ht (c+aM):=by
  unfold ht;by_cases h:c+aM<0
  ·simp[h]
  ·simp[h]
 simp only[tc,L,aa,a1];rfl
theorem GC {aM u a b c I:Int} (s: -1000000000000000<=aM/\aM<=1000000000000000) (E:0<=u/\u<=1000000000000000) (O:0<=a/\a<=1000000000000000) (aC:0<=b/\b<=1000000000000000) (ba:0<=c/\c<=1000000000000000) (bF:0<=I/\I<=1000000000000000):
  zn (aM,u,a,b,c,I,())=some (ht (a+aM),gK (b+u),ht (c+aM),gK (I+u),()):=by
 simp only[zn,Be c I s E O aC,Bc _ _ s E ba bF]
def uT (k:M):Bool:=match pw (k,()) with
 |some (p,e,_)=>decide (e=0)&&decide (p.2.1=1)
 |none=>false
theorem ab0: ∀k∈jl,(pw (k,())).isSome=true/\md (k,())=some (uT k,()):=by
 have h:jl.all (λk=>(pw (k,())).isSome&&(match md (k,()) with |some (b,_)=>b==uT k |none=>false))=true:=by kernel_rfl
 intro k af;have:=fy.1 h k af;rw[bN]at this;refine ⟨this.1,?_⟩;have E:=this.2;cases e:md (k,()) with
 |none=>rw[e]at E;cases E
 |some q=>
  obtain ⟨b,ad⟩:=q;rw[e]at E;have:b=uT k:=by simpa using E
  rw[this]
theorem w0:(pw (([]:M),())).isSome=true:=by kernel_rfl
theorem abQ: ∀f∈e0,∀t∈e0,∃b,Ad (f,t,())=some (b,())/\tD (f,t,())=some (b,()):=by
 have h:e0.all (λf=>e0.all λt=>match Ad (f,t,()),tD (f,t,()) with |some (a,_),some (b,_)=>a==b |_,_=>false)=true:=by kernel_rfl
 intro f aL t aT;have E:=fy.1 (fy.1 h f aL) t aT;cases e:Ad (f,t,()) with
 |none=>rw[e]at E;cases E
 |some q=>
  cases a1:tD (f,t,()) with
  |none=>rw[e,a1]at E;cases E
  |some r=>
   obtain ⟨a,ad⟩:=q;obtain ⟨b,v⟩:=r;rw[e,a1]at E;have:a=b:=by simpa using E
   subst this;exact ⟨a,rfl,rfl⟩
theorem pQ (l:cG) (i:Nat) (u:i<l.length) (ab:l.length<=10^6) (x y z w a b c I:Int) (af:(pw (l[i].2.1,())).isSome=true):
  tp (l,(l.length:Int),(i:Int),x,y,z,w,a,b,c,I,())=nq (uT l[i].2.1,l,(l.length:Int),(i:Int),x,y,z,w,a,b,c,I,l[i],()):=by
 have L:=fe (i:=i) (l:=l) (by omega);have aa:=dZ i;obtain ⟨q,aD⟩:=Option.isSome_iff_exists.1 af;simp only[tp,L,aa,ak,bM,bE,bW u,aD,uT];obtain ⟨p,e,ad⟩:=q;simp only;cases decide (e=0)<;>rfl
theorem ajS {m:bB} (hm:gy m) (a b c I:Int) (s:0<=a/\a<=b/\b<=1000000000000000) (E:0<=c/\c<=I/\I<=1000000000000000):
  ∃bn bQ eu lF:Int,k5 (((a,(b,())),((c,(I,())),())),m,())=some (((bn,(bQ,())),((eu,(lF,())),())),())/\(0<=bn/\bn<=bQ/\bQ<=1000000000000000)/\(0<=eu/\eu<=lF/\lF<=1000000000000000)/\
   ∀(l:cG) (i:Nat) (u:i<l.length) (ab:l.length<=10^6) (he:l[i]=m) (x y z w:Int),
    tp (l,(l.length:Int),(i:Int),x,y,z,w,a,b,c,I,())=some (.inl (l,(l.length:Int),((i+1:Nat):Int),x,y,z,w,bn,bQ,eu,lF,())):=by
 have cy:=hm.ok;obtain ⟨q,k,v,f,t,d,n,rfl,aD,aR,-,-⟩:=hm.form;have dn:i64.wrap (b+1)=b+1:=cI (by omega);have de: ∀i:Nat,i<=10^6->i64.wrap ((i:Int)+1)=((i+1:Nat):Int):=λi u=>by rw[cI (by omega)];omega
 have gf:i64.wrap (c-64)=c-64:=cI (by omega);have kg:i64.wrap (a-1)=a-1:=cI (by omega);have BG:q=0\/q=1\/q=2\/q=3\/q=4\/q=5:=by omega
 rcases BG with rfl |rfl |rfl |rfl |rfl |rfl
 ·
  have gQ:jz 0 k v f t d n=(1,k,v,([],[],()),[],[],n,()):=rfl;rw[gQ]at cy ⊢;have af:k∈jl:=cy.key (.inl rfl);have aZ:v.length<=10:=cy.val rfl;obtain ⟨fU,fV⟩:=ab0 k af;have DS:i64.wrap (I+(v.length:Int))=I+(v.length:Int):=cI (by omega);cases q2:uT k with
  |true=>
   refine ⟨a,(if b+1<1000000000000000 then b+1 else 1000000000000000),c,I,?_,by split<;>omega,E,λl i u ab he x y z w=> ?_⟩
   ·simp only[k5,cw,ak,fV,q2,ry,dn]
   ·rw[pQ l i u ab _ _ _ _ _ _ _ _ (by rw[he];exact fU)];have bj:ht (a+0)=a:=by unfold ht;split<;>(try split)<;>omega
    have bG:gK (b+1)=(if b+1<1000000000000000 then b+1 else 1000000000000000):=by unfold gK;split<;>split<;>omega
    simp only[he,q2,nq,oi,cw,ak,Be (aM:=(0:Int)) (u:=1) (a:=a) (b:=b) c I (by omega) (by omega) (by omega) (by omega),bj,bG,de i (by omega)]
  |false=>
   refine ⟨a,b,(if 0<c-64 then c-64 else 0),(if I+(v.length:Int)<1000000000000000 then I+(v.length:Int) else 1000000000000000),?_,s,by split<;>split<;>omega,λl i u ab he x y z w=> ?_⟩
   ·simp only[k5,cw,ak,ax,fV,q2,ry,ts,gf,DS]
   ·rw[pQ l i u ab _ _ _ _ _ _ _ _ (by rw[he];exact fU)];have bj:ht (c+ -64)=(if 0<c-64 then c-64 else 0):=by unfold ht;split<;>split<;>(try split)<;>omega
    have bG:gK (I+(v.length:Int))=(if I+(v.length:Int)<1000000000000000 then I+(v.length:Int) else 1000000000000000):=by unfold gK;split<;>split<;>omega
    simp only[he,q2,nq,oi,cw,ak,ax,Bc (aM:=(-64:Int)) (u:=(v.length:Int)) (c:=c) (I:=I) a b (by omega) (by omega) (by omega) (by omega),bj,bG,de i (by omega)]
 ·
  have gQ:jz 1 k v f t d n=(2,k,[],([],[],()),[],[],0,()):=rfl;rw[gQ]at cy ⊢;have af:k∈jl:=cy.key (.inr rfl);obtain ⟨fU,fV⟩:=ab0 k af;have f1:(decide ((2:Int)=1))=false:=rfl;cases q2:uT k with
  |true=>
   refine ⟨(if 0<a-1 then a-1 else 0),b,c,I,?_,by split<;>omega,E,λl i u ab he x y z w=> ?_⟩
   ·simp only[k5,f1,cw,ak,ax,fV,q2,ts,kg]
   ·rw[pQ l i u ab _ _ _ _ _ _ _ _ (by rw[he];exact fU)];have bj:ht (a+ -1)=(if 0<a-1 then a-1 else 0):=by unfold ht;split<;>split<;>(try split)<;>omega
    have bG:gK (b+0)=b:=by unfold gK;split<;>omega
    simp only[he,q2,nq,oi,qe,f1,cw,ak,ax,Be (aM:=(-1:Int)) (u:=0) (a:=a) (b:=b) c I (by omega) (by omega) (by omega) (by omega),bj,bG,de i (by omega)]
  |false=>
   refine ⟨a,b,(if 0<c-64 then c-64 else 0),I,?_,s,by split<;>omega,λl i u ab he x y z w=> ?_⟩
   ·simp only[k5,f1,cw,ak,ax,fV,q2,ts,gf]
   ·rw[pQ l i u ab _ _ _ _ _ _ _ _ (by rw[he];exact fU)];have bj:ht (c+ -64)=(if 0<c-64 then c-64 else 0):=by unfold ht;split<;>split<;>(try split)<;>omega
    have bG:gK (I+0)=I:=by unfold gK;split<;>omega
    simp only[he,q2,nq,oi,qe,f1,cw,ak,ax,Bc (aM:=(-64:Int)) (u:=0) (c:=c) (I:=I) a b (by omega) (by omega) (by omega) (by omega),bj,bG,de i (by omega)]
 ·
  have gQ:jz 2 k v f t d n=(3,[],[],d,[],[],0,()):=rfl;rw[gQ]at cy ⊢;have f1:(decide ((3:Int)=1))=false:=rfl;have f2:(decide ((3:Int)=2))=false:=rfl;have f6:(decide ((3:Int)=6))=false:=rfl;refine ⟨0,b,0,I,?_,by omega,by omega,λl i u ab he x y z w=> ?_⟩
  ·simp only[k5,f1,f2,f6,cw,ak,ax]
  ·rw[pQ l i u ab _ _ _ _ _ _ _ _ (by rw[he];exact w0)];have bj:ht (a+ -1000000000000000)=0:=by unfold ht;split<;>(try split)<;>omega
   have bG:gK (b+0)=b:=by unfold gK;split<;>omega
   have dm:ht (c+ -1000000000000000)=0:=by unfold ht;split<;>(try split)<;>omega
   have cJ:gK (I+0)=I:=by unfold gK;split<;>omega
   simp only[he,nq,oi,qe,f1,f2,f6,cw,ak,ax,GC (aM:=(-1000000000000000:Int)) (u:=0) (a:=a) (b:=b) (c:=c) (I:=I) (by omega) (by omega) (by omega) (by omega) (by omega) (by omega),bj,bG,dm,cJ,de i (by omega)]
 ·
  have gQ:jz 3 k v f t d n=(4,[],[],([],[],()),f,t,0,()):=rfl;rw[gQ]at cy ⊢;obtain ⟨NF,g1,g2⟩:=abQ f (cy.from_ (.inl rfl)) t (cy.to_ (.inl rfl));have f1:(decide ((4:Int)=1))=false:=rfl;have f2:(decide ((4:Int)=2))=false:=rfl;have f3:(decide ((4:Int)=3))=false:=rfl;have f5:(decide ((4:Int)=5))=false:=rfl;have f6:(decide ((4:Int)=6))=false:=rfl;have bj:ht (a+ -1000000000000000)=0:=by unfold ht;split<;>(try split)<;>omega
  have dm:ht (c+ -1000000000000000)=0:=by unfold ht;split<;>(try split)<;>omega
  cases NF with
  |false=>
   refine ⟨0,1000000000000000,0,1000000000000000,?_,by omega,by omega,λl i u ab he x y z w=> ?_⟩
   ·simp only[k5,f1,f2,f3,f6,ax,g2,cK,ak]
   ·rw[pQ l i u ab _ _ _ _ _ _ _ _ (by rw[he];exact w0)];have bG:gK (b+1000000000000000)=1000000000000000:=by unfold gK;split<;>omega
    have cJ:gK (I+1000000000000000)=1000000000000000:=by unfold gK;split<;>omega
    simp only[he,nq,oi,qe,f1,f2,f3,f6,g1,cK,ak,ax,GC (aM:=(-1000000000000000:Int)) (u:=1000000000000000) (a:=a) (b:=b) (c:=c) (I:=I) (by omega) (by omega) (by omega) (by omega) (by omega) (by omega),bj,bG,dm,cJ,de i (by omega)]
  |true=>
   refine ⟨0,b,0,I,?_,by omega,by omega,λl i u ab he x y z w=> ?_⟩
   ·simp only[k5,f1,f2,f3,f5,f6,ax,g2,cP]
   ·rw[pQ l i u ab _ _ _ _ _ _ _ _ (by rw[he];exact w0)];have bG:gK (b+0)=b:=by unfold gK;split<;>omega
    have cJ:gK (I+0)=I:=by unfold gK;split<;>omega
    simp only[he,nq,oi,qe,f1,f2,f3,f5,f6,g1,cP,ak,ax,GC (aM:=(-1000000000000000:Int)) (u:=0) (a:=a) (b:=b) (c:=c) (I:=I) (by omega) (by omega) (by omega) (by omega) (by omega) (by omega),bj,bG,dm,cJ,de i (by omega)]
 ·
  have gQ:jz 4 k v f t d n=(5,[],[],([],[],()),f,t,0,()):=rfl;rw[gQ]at cy ⊢;obtain ⟨NF,g1,g2⟩:=abQ f (cy.from_ (.inr rfl)) t (cy.to_ (.inr rfl));have f1:(decide ((5:Int)=1))=false:=rfl;have f2:(decide ((5:Int)=2))=false:=rfl;have f3:(decide ((5:Int)=3))=false:=rfl;have f6:(decide ((5:Int)=6))=false:=rfl;have bj:ht (a+ -1000000000000000)=0:=by unfold ht;split<;>(try split)<;>omega
  have dm:ht (c+ -1000000000000000)=0:=by unfold ht;split<;>(try split)<;>omega
  cases NF with
  |false=>
   refine ⟨0,1000000000000000,0,1000000000000000,?_,by omega,by omega,λl i u ab he x y z w=> ?_⟩
   ·simp only[k5,f1,f2,f3,f6,ax,g2,cK,ak]
   ·rw[pQ l i u ab _ _ _ _ _ _ _ _ (by rw[he];exact w0)];have bG:gK (b+1000000000000000)=1000000000000000:=by unfold gK;split<;>omega
    have cJ:gK (I+1000000000000000)=1000000000000000:=by unfold gK;split<;>omega
    simp only[he,nq,oi,qe,f1,f2,f3,f6,g1,cK,ak,ax,GC (aM:=(-1000000000000000:Int)) (u:=1000000000000000) (a:=a) (b:=b) (c:=c) (I:=I) (by omega) (by omega) (by omega) (by omega) (by omega) (by omega),bj,bG,dm,cJ,de i (by omega)]
  |true=>
   have SW:i64.wrap (b+b)=b+b:=cI (by omega);have axM:i64.wrap (I+I)=I+I:=cI (by omega);refine ⟨0,(if b+b<1000000000000000 then b+b else 1000000000000000),0,(if I+I<1000000000000000 then I+I else 1000000000000000),?_,by split<;>omega,by split<;>omega,λl i u ab he x y z w=> ?_⟩
   ·simp only[k5,f1,f2,f3,f6,ax,g2,cP,cw,ak,ry,SW,axM]
   ·rw[pQ l i u ab _ _ _ _ _ _ _ _ (by rw[he];exact w0)];have bG:gK (b+b)=(if b+b<1000000000000000 then b+b else 1000000000000000):=by unfold gK;split<;>split<;>omega
    have cJ:gK (I+I)=(if I+I<1000000000000000 then I+I else 1000000000000000):=by unfold gK;split<;>split<;>omega
    simp only[he,nq,oi,qe,f1,f2,f3,f6,g1,cP,cw,ak,ax,Be (aM:=(-1000000000000000:Int)) (u:=b) (a:=a) (b:=b) c I (by omega) (by omega) (by omega) (by omega),Bc (aM:=(-1000000000000000:Int)) (u:=I) (c:=c) (I:=I) 0 (if b+b<1000000000000000 then b+b else 1000000000000000) (by omega) (by omega) (by omega) (by omega),bj,bG,dm,cJ,de i (by omega)]
 ·
  have gQ:jz 5 k v f t d n=(6,[],[],d,[],[],n,()):=rfl;rw[gQ]at cy ⊢;have f1:(decide ((6:Int)=1))=false:=rfl;have f2:(decide ((6:Int)=2))=false:=rfl;have f3:(decide ((6:Int)=3))=false:=rfl;refine ⟨a,b,c,I,?_,s,E,λl i u ab he x y z w=> ?_⟩
  ·simp only[k5,f1,f2,cw,ak,ax]
  ·rw[pQ l i u ab _ _ _ _ _ _ _ _ (by rw[he];exact w0)];simp only[he,nq,oi,qe,f1,f2,f3,cw,ak,ax,de i (by omega)]
def o3 (x:Int):Int:=if x<1000000000000000 then x else 1000000000000000
def xl (d t:eQ):eQ:=((o3 (d.1.1+t.1.1),(o3 (d.1.2.1+t.1.2.1),())),((o3 (d.2.1.1+t.2.1.1),(o3 (d.2.1.2.1+t.2.1.2.1),())),()))
theorem aiH {d t:eQ} (ae:jS d) (aT:jS t):jS (xl d t):=by
 obtain ⟨⟨dY,a2,a3⟩,a4,a5,oa⟩:=ae;obtain ⟨⟨b1,b2,b3⟩,hs,hI,jY⟩:=aT;refine ⟨⟨?_,?_,?_⟩,?_,?_,?_⟩<;>simp only[xl,o3]
 ·split<;>omega
 ·split<;>split<;>omega
 ·split<;>omega
 ·split<;>omega
 ·split<;>split<;>omega
 ·split<;>omega
theorem ait {d t:eQ} (ae:jS d) (aT:jS t):Ak (d,t,())=some (xl d t,()):=by obtain ⟨⟨dY,a2,a3⟩,a4,a5,oa⟩:=ae;obtain ⟨⟨b1,b2,b3⟩,hs,hI,jY⟩:=aT;have L:i64.wrap (d.1.1+t.1.1)=d.1.1+t.1.1:=cI (by omega);have aa:i64.wrap (d.1.2.1+t.1.2.1)=d.1.2.1+t.1.2.1:=cI (by omega);have a1:i64.wrap (d.2.1.1+t.2.1.1)=d.2.1.1+t.2.1.1:=cI (by omega);have bq:i64.wrap (d.2.1.2.1+t.2.1.2.1)=d.2.1.2.1+t.2.1.2.1:=cI (by omega);simp only[Ak,L,aa,a1,bq];rfl
theorem ai0 {x:Int} (h:0<=x):ht x=o3 x:=by unfold ht o3;split<;>(try split)<;>(try split)<;>omega
theorem aiZ {x:Int}:gK x=o3 x:=by unfold gK o3;split<;>split<;>omega
def o1 (d:eQ) (m:bB):eQ:=((k5 (d,m,())).map (·.1)).getD nR
theorem OU {d:eQ} {m:bB} (ae:jS d) (hm:gy m):k5 (d,m,())=some (o1 d m,())/\jS (o1 d m)/\ ∀(l:cG) (i:Nat) (u:i<l.length) (ab:l.length<=10^6) (he:l[i]=m) (x y z w:Int),
  tp (l,(l.length:Int),(i:Int),x,y,z,w,d.1.1,d.1.2.1,d.2.1.1,d.2.1.2.1,())=some (.inl (l,(l.length:Int),((i+1:Nat):Int),x,y,z,w,(o1 d m).1.1,(o1 d m).1.2.1,(o1 d m).2.1.1,(o1 d m).2.1.2.1,())):=by
 obtain ⟨⟨a,b,nc⟩,⟨c,I,pG⟩,rQ⟩:=d;obtain ⟨bn,bQ,eu,lF,s,E,O,aC⟩:=ajS hm a b c I ae.1 ae.2;have e:o1 ((a,(b,())),((c,(I,())),())) m=((bn,(bQ,())),((eu,(lF,())),())):=by unfold o1;rw[s];rfl
 rw[e];exact ⟨s,⟨E,O⟩,aC⟩
theorem arw {n:cZ} (b8:n.2.2.1≠[]) (ae: ∀d∈n.2.2.2.1,jS d) (vo:n.2.2.2.1.length<=1000) (J: ∀m∈n.2.2.2.2.1,gy m) (QD:n.2.2.2.2.1.length<=1000):
  ∃d,uz (n,())=some (d,())/\m4 (n,())=some (d,())/\jS d:=by
 have b6:(decide ((((n.2.2.1.length):Int):Int)=(0:Int)))=false:=bf (by have:=List.length_pos_iff.2 b8;omega)
 obtain ⟨S,je⟩: ∃S,n.2.2.2.1=S:=⟨_,rfl⟩;obtain ⟨dI,lI⟩: ∃dI,n.2.2.2.2.1=dI:=⟨_,rfl⟩;rw[je]at ae vo;rw[lI]at J QD
 let F:Nat->eQ:=λi=>(S.take i).foldl xl nR
 have e7: ∀i,(u:i<S.length)->F (i+1)=xl (F i) S[i]:=λi u=>by show (S.take (i+1)).foldl xl nR=_;rw[eY u,List.foldl_append];rfl
 have Qo: ∀i,i<=S.length->jS (F i):=by
  intro i
  induction i with
  |zero=>
   intro _;show jS nR;exact ⟨⟨Int.le_refl _,Int.le_refl _,by decide⟩,Int.le_refl _,Int.le_refl _,by decide⟩
  |succ i aQ=>intro u;rw[e7 i (by omega)];exact aiH (aQ (by omega)) (ae _ (dz (by omega)))
 let gq:Nat->eQ:=λi=>(dI.take i).foldl o1 (F S.length)
 have c1: ∀i,(u:i<dI.length)->gq (i+1)=o1 (gq i) dI[i]:=λi u=>by show (dI.take (i+1)).foldl o1 _=_;rw[eY u,List.foldl_append];rfl
 have Qp: ∀i,i<=dI.length->jS (gq i):=by
  intro i
  induction i with
  |zero=>intro _;exact Qo _ (b7 _)
  |succ i aQ=>intro u;rw[c1 i (by omega)];exact (OU (aQ (by omega)) (J _ (dz (by omega)))).2.1
 have g1:Nc (S,(S.length:Int),0,n,0,0,0,0,0,0,0,0,())=some (.inl (n,0,0,0,0,(F S.length).1.1,(F S.length).1.2.1,(F S.length).2.1.1,(F S.length).2.1.2.1,())):=by
  obtain ⟨z,g1,rfl⟩:=dM (b:=Eg) (λi (q:eQ)=>(S,(S.length:Int),(i:Int),n,0,0,0,0,q.1.1,q.1.2.1,q.2.1.1,q.2.1.2.1,())) S.length (λi q=>q=F i) (λz=>z=.inl (n,0,0,0,0,(F S.length).1.1,(F S.length).1.2.1,(F S.length).2.1.1,(F S.length).2.1.2.1,())) (by omega)
   (λi u q aD=>by left;subst aD;obtain ⟨⟨dY,a2,a3⟩,a4,a5,oa⟩:=Qo i (by omega);obtain ⟨⟨b1,b2,b3⟩,hs,hI,jY⟩:=ae _ (dz u);have L:=fe (i:=i) (l:=S) (by omega);have aa:=dZ i;have a1:=e1 i (by omega);have bq:=Be (aM:=S[i].1.1) (u:=S[i].1.2.1) (a:=(F i).1.1) (b:=(F i).1.2.1) (F i).2.1.1 (F i).2.1.2.1 (by omega) (by omega) (by omega) (by omega);have cU:=Bc (aM:=S[i].2.1.1) (u:=S[i].2.1.2.1) (c:=(F i).2.1.1) (I:=(F i).2.1.2.1) (o3 ((F i).1.1+S[i].1.1)) (o3 ((F i).1.2.1+S[i].1.2.1)) (by omega) (by omega) (by omega) (by omega);rw[ai0 (by omega),aiZ]at bq cU;refine ⟨F (i+1),rfl,?_⟩;rw[e7 i u];simp only[Eg,L,aa,ak,bM,bE,bW u,bq,cU,a1];rfl)
   (λq aD=>by subst aD;have L:=ga S;exact ⟨_,rfl,by simp only[Eg,L,ax]⟩) nR rfl
  exact g1
 have g2:JZ (0,n,0,0,0,0,nR,())=some (.inl (n,0,0,0,0,F S.length,())):=by
  obtain ⟨z,g1,rfl⟩:=dM (b:=tg) (λi (q:eQ)=>((i:Int),n,0,0,0,0,q,())) S.length (λi q=>q=F i) (λz=>z=.inl (n,0,0,0,0,F S.length,())) (by omega)
   (λi u q aD=>by left;subst aD;have L:=fe (i:=i) (l:=S) (by omega);have aa:=dZ i;have a1:=e1 i (by omega);refine ⟨F (i+1),rfl,?_⟩;simp only[tg,je,L,aa,ak,bM,bE,bW u,ait (Qo i (by omega)) (ae _ (dz u)),a1,e7 i u])
   (λq aD=>by subst aD;have L:=ga S;exact ⟨_,rfl,by simp only[tg,je,L,ax]⟩) nR rfl
  exact g1
 have g3:Nd (dI,(dI.length:Int),0,0,0,0,0,(F S.length).1.1,(F S.length).1.2.1,(F S.length).2.1.1,(F S.length).2.1.2.1,())=some (.inl (0,0,0,0,(gq dI.length).1.1,(gq dI.length).1.2.1,(gq dI.length).2.1.1,(gq dI.length).2.1.2.1,())):=by
  obtain ⟨z,g1,rfl⟩:=dM (b:=tp) (λi (q:eQ)=>(dI,(dI.length:Int),(i:Int),0,0,0,0,q.1.1,q.1.2.1,q.2.1.1,q.2.1.2.1,())) dI.length (λi q=>q=gq i) (λz=>z=.inl (0,0,0,0,(gq dI.length).1.1,(gq dI.length).1.2.1,(gq dI.length).2.1.1,(gq dI.length).2.1.2.1,())) (by omega)
   (λi u q aD=>by left;subst aD;have h:=(OU (Qp i (by omega)) (J _ (dz u))).2.2 dI i u (by omega) rfl 0 0 0 0;refine ⟨gq (i+1),rfl,?_⟩;rw[c1 i u];exact h)
   (λq aD=>by subst aD;have L:=ga dI;exact ⟨_,rfl,by simp only[tp,L,ax]⟩) (F S.length) rfl
  exact g1
 have g4:J0 (0,n,0,0,0,0,F S.length,())=some (.inl (0,0,0,0,gq dI.length,())):=by
  obtain ⟨z,g1,rfl⟩:=dM (b:=th) (λi (q:eQ)=>((i:Int),n,0,0,0,0,q,())) dI.length (λi q=>q=gq i) (λz=>z=.inl (0,0,0,0,gq dI.length,())) (by omega)
   (λi u q aD=>by left;subst aD;have L:=fe (i:=i) (l:=dI) (by omega);have aa:=dZ i;have a1:=e1 i (by omega);refine ⟨gq (i+1),rfl,?_⟩;simp only[th,lI,L,aa,ak,bM,bE,bW u,(OU (Qp i (by omega)) (J _ (dz u))).1,a1,c1 i u])
   (λq aD=>by subst aD;have L:=ga dI;exact ⟨_,rfl,by simp only[th,lI,L,ax]⟩) (F S.length) rfl
  exact g1
 refine ⟨gq dI.length,?_,?_,Qp _ (b7 _)⟩
 ·simp only[uz,b6,ax,je,g1,lI,g3]
 ·simp only[m4,b6,ax,g2,g4]
abbrev bK:b5->M:=λp=>p.1
theorem acB (p:b5): ∀t:aj,cH bK t->cH bK (ins p t)
 |[],_=>List.pairwise_singleton _ _
 |x::t,h=>by
  unfold ins;cases J:Op.bytesLess x.1 p.1 with
  |true=>
   rw[ak];refine List.pairwise_cons.2 ⟨λy bo=> ?_,acB p t h.tail⟩;rcases O2 p y t bo with rfl |bo
   ·exact J
   ·exact h.head y bo
  |false=>
   rw[ax];refine List.pairwise_cons.2 ⟨λy bo=> ?_,List.Pairwise.filter _ h⟩;obtain ⟨s,E⟩:=eV.1 bo;have cC:y.1≠p.1:=by simpa using E
   have sZ:Op.bytesLess y.1 x.1=false:=by
    rcases eO.1 s with rfl |s
    ·exact hJ _
    ·exact d9 (h.head y s)
   show Op.bytesLess p.1 y.1=true;rcases h0 p.1 y.1 with O |O |O
   ·exact O
   ·exact absurd O.symm cC
   ·
    rcases h0 p.1 x.1 with aC |aC |aC
    ·rw[fZ O aC]at sZ;cases sZ
    ·rw[aC]at O;rw[O]at sZ;cases sZ
    ·rw[aC]at J;cases J
theorem abh (l:lZ):cH bK (mJ l):=by
 have key: ∀(l:lZ) (t:aj),cH bK t->cH bK (l.foldl (λt x=>ins (oR x) t) t):=by
  intro l
  induction l with
  |nil=>intro t h;exact h
  |cons x l aQ=>intro t h;exact aQ _ (acB _ _ h)
 exact key l [] List.Pairwise.nil
theorem Al (d:aK) (k:M):pC (d,k,())=some (b9 d k,()):=by
 simp only[pC,b9];cases s:Op.bytesLess k d.1
 ·cases E:decide (d.2.1=[])
  ·simp only[cK,ak,Bool.true_and,Bool.false_or]
  ·simp only[cK,cP,ak,ax,Bool.true_and,Bool.true_or]
 ·simp only[cP,ax,Bool.false_and]
structure cQ (t:aj):Prop where
 len:t.length<=1000
 srt:cH bK t
 key: ∀p∈t,1<=p.1.length/\p.1.length<=65535
 val: ∀p∈t,p.2.1.length<=64
 stamp: ∀p∈t,0<=p.2.2.1/\p.2.2.1<=1000000000
 chg: ∀p∈t,Kl p
theorem ab4 (n:Int):(zX n).length<=4:=by
 unfold zX;obtain ⟨m,hm⟩: ∃m,(n%4).toNat=m:=⟨_,rfl⟩;have:m<4:=by omega
 rw[hm]
 match m,this with
 |0,_=>decide
 |1,_=>decide
 |2,_=>decide
 |3,_=>decide
theorem ah2 (l:lZ) (h: ∀x∈l,rI x) (ab:l.length<=1000):cQ (mJ l):=by
 have hm: ∀p∈mJ l,∃y,rI y/\p=oR y:=λp aP=>by obtain ⟨y,bo,e⟩:=Oc l p aP;exact ⟨y,h y bo,e⟩
 refine ⟨Nat.le_trans (FW l) ab,abh l,λp aP=> ?_,λp aP=> ?_,λp aP=> ?_,λp aP=> ?_⟩
 ·obtain ⟨y,bo,rfl⟩:=hm p aP;obtain ⟨-,aU,ck⟩:=ND y.1 bo.1.1 bo.1.2;show 1<=(lW y.1).length/\(lW y.1).length<=65535;omega
 ·obtain ⟨y,bo,rfl⟩:=hm p aP;have:=ab4 y.2.1;show (zX y.2.1).length<=64;omega
 ·obtain ⟨y,bo,rfl⟩:=hm p aP;show 0<=y.2.2.1%4/\y.2.2.1%4<=1000000000;omega
 ·obtain ⟨y,bo,rfl⟩:=hm p aP;have c:=aju y.1 bo.1.1 bo.1.2;have:=ab4 y.2.1;exact ⟨c.1,c.2,by show (zX y.2.1).length<=64;omega⟩
theorem cQ.inS {t:aj} (h:cQ t) (d:aK):cQ (inS d t):=
 ⟨Nat.le_trans (sc d t) h.len,List.Pairwise.filter _ h.srt,λp aP=>h.key p (eV.1 aP).1,λp aP=>h.val p (eV.1 aP).1,λp aP=>h.stamp p (eV.1 aP).1,λp aP=>h.chg p (eV.1 aP).1⟩
theorem ao0 (t:aj) (ae:cH bK t) (ab:t.length<=10^6):acl (t,())=some (true,()):=by
 obtain ⟨z,s,rfl⟩:=dM (b:=Dv) (λi (_:G)=>(t,((i+1:Nat):Int),())) (t.length-1) (λ_ _=>True) (λz=>z=.inr ()) (by omega)
  (λi u _ _=>by
   left;have b6:i64.wrap (((i+1:Nat):Int)-1)=(i:Int):=by rw[cI (by omega)];omega
   have L:(decide (((i+1:Nat):Int)<((t.length):Int)))=true:=am (by omega);have aa:=dZ i;have a1:=fe (i:=i) (l:=t) (by omega);have bq:(decide ((0:Int)<=((i+1:Nat):Int)))=true:=am (by omega);have cU:i64.wrap (((i+1:Nat):Int)+1)=((i+1+1:Nat):Int):=by rw[cI (by omega)];omega
   have ix:i<t.length:=by omega
   have e8:i+1<t.length:=by omega
   have dp:Op.bytesLess t[i].1 t[i+1].1=true:=List.pairwise_iff_getElem.1 ae _ _ ix e8 (by omega);exact ⟨(),trivial,by simp only[Dv,b6,L,aa,a1,bq,ak,ax,bM,bE,bW ix,bW e8,dp,cP,cU]⟩)
  (λ_ _=>by have L:(decide (((t.length-1+1:Nat):Int)<((t.length):Int)))=false:=bf (by omega);exact ⟨_,rfl,by simp only[Dv,L,ax]⟩) () trivial
 have dq:LG (t,(1:Int),())=some (.inr ()):=s;simp only[acl,dq]
theorem aqJ {p:b5} (s:1<=p.1.length/\p.1.length<=65535) (E:p.2.1.length<=64) (O:0<=p.2.2.1/\p.2.2.1<=1000000000):JL (p,())=some (true,()):=by have L:(decide ((((p.1.length):Int):Int)>=(1:Int)))=true:=am (by omega);have aa:(decide ((((p.1.length):Int):Int)<=(65535:Int)))=true:=am (by omega);have a1:(decide ((((p.2.1.length):Int):Int)<=(64:Int)))=true:=am (by omega);have bq:(decide ((p.2.2.1:Int)>=(0:Int)))=true:=am O.1;have cU:(decide ((p.2.2.1:Int)<=(1000000000:Int)))=true:=am O.2;simp only[JL,L,aa,a1,bq,cU,ak]
theorem aqW {t:aj} (aT:cQ t) (d:aK):zo ((inS d t,[],[],[],[],()),d,())=some (true,()):=by
 have bU:=aT.inS d;obtain ⟨T,adD⟩: ∃T,inS d t=T:=⟨_,rfl⟩;have QR: ∀p∈T,b9 d p.1=true:=λp aP=>by rw[<-adD]at aP;exact (eV.1 aP).2
 rw[adD]at bU ⊢;obtain ⟨z,s,rfl⟩:=dM (b:=BJ) (λi (_:G)=>(T,(T.length:Int),(i:Int),d,())) T.length (λ_ _=>True) (λz=>z=.inr (d,())) (by have:=bU.len;omega)
  (λi u _ _=>by left;have ab:=bU.len;have L:=fe (i:=i) (l:=T) (by omega);have aa:=dZ i;have a1:=e1 i (by omega);have hm:=dz u;have bq:=aqJ (bU.key _ hm) (bU.val _ hm) (bU.stamp _ hm);exact ⟨(),trivial,by simp only[BJ,L,aa,ak,ax,bM,bE,bW u,MH,bq,cP,cK,Al,QR _ hm,a1]⟩)
  (λ_ _=>by have L:=ga T;exact ⟨_,rfl,by simp only[BJ,L,ax]⟩) () trivial
 have dq:PY (T,(T.length:Int),0,d,())=some (.inr (d,())):=s;have E:=ao0 T bU.srt (by have:=bU.len;omega);have b6:(decide ((((List.length ([]:dR)):Int):Int)=(0:Int)))=true:=rfl;have L:(decide (i64.wrap (i64.wrap (((List.length ([]:bc)):Int)+((List.length ([]:hH)):Int))+((List.length ([]:cG)):Int))=(0:Int)))=true:=rfl;have aa:(decide ((-1:Int)>=(0:Int)))=false:=rfl;simp only[zo,b6,L,ak,E,P5,P7,dq,aa,cK]
theorem oI: ∀(t:aB) (x:t.den),aB.eqb t x x=true
 | .bool,x=>by simp[aB.eqb]
 | .int _,x=>by simp[aB.eqb]
 | .str,x=>by simp[aB.eqb]
 | .pair a b,x=>by simp[aB.eqb,oI a,oI b]
 | .list _,_=>rfl
 | .unit,_=>rfl
 | .opq,_=>rfl
theorem aps {d:aK} (h:oN d):k8 (d,())=some (false,()):=by
 unfold k8;rcases h with h |h
 ·simp only[h,cw,cP,ax]
 ·have E:=d9 h;have O: ¬d.2.1=d.1:=λe=>by rw[e,hJ]at h;cases h
  simp only[E,bf O,Bool.or_false];cases (!decide (d.2.1=([]:M)))<;>rfl
theorem xj {a b c:Int} (s:b<=a) (E:a<=c):qG (a,b,c,())=some (true,()):=by simp only[qG,am s,am E,ak]
theorem ahO (a b:M):bv (a,b,())=some (bV a b,()):=by
 unfold bV;by_cases h:b.length<=a.length
 ·have a7:((a.length:Int)>=(b.length:Int)):=by omega
  have aX:((0:Int)<=(b.length:Int)):=by omega
  have c3:((b.length:Int)<=(a.length:Int)):=by omega
  simp only[bv,a7,aX,c3,am h,am,ak,bM,bE,Bool.true_and,List.drop_zero,Int.toNat_zero]
 ·have a7: ¬((a.length:Int)>=(b.length:Int)):=by omega
  simp only[bv,a7,bf h,bf,ax,Bool.false_and,not_false_eq_true]
theorem aaS: ∀p∈e0,1<=p.length/\p.length<=200:=by decide
theorem abS {f t:M} (aL:f∈e0) (aT:t∈e0) (h:bV f t=false/\bV t f=false):Ar (f,t,())=some (true,()):=by obtain ⟨dY,a2⟩:=aaS f aL;obtain ⟨b1,b2⟩:=aaS t aT;have L:=xj (a:=(f.length:Int)) (b:=1) (c:=200) (by omega) (by omega);have aa:=xj (a:=(t.length:Int)) (b:=1) (c:=200) (by omega) (by omega);simp only[Ar,L,aa,ak,vy,ahO,h.1,h.2,cK]
theorem acu {d:aK} (h:oN d) (s:d.1.length<=200) (E:d.2.1.length<=200):AE (d,())=some (true,()):=by have e:(decide ((if ((d.1.length:Int))<((d.2.1.length:Int)) then ((d.2.1.length):Int) else ((d.1.length):Int))<=(65535:Int)))=true:=am (by split<;>omega);simp only[AE,aps h,cK,ak,e]
theorem tX: ∀k∈jl,1<=k.length/\k.length<=100:=by
 have hlen:jl.all (λk=>decide (1<=k.length)&&decide (k.length<=100))=true:=by kernel_rfl
 intro k af;have:=fy.1 hlen k af;simpa using this
theorem sd {k:M} (h:k∈jl):qt (k,())=some ((k,(k++[0],())),())/\oH (k,())=some ((k,(k++[0],())),()):=by have:=(tX k h).2;have e:(decide (k.length+List.length ([0]:M)<=bp))=true:=am (by rw[ek];simp;omega);exact ⟨by simp only[qt,e,ak],by simp only[oH,e,ak]⟩
theorem wU {m:bB} (hm:gy m):qm (m,())=some (true,())/\ ∃R cr:aq,rL (m,())=some (R,())/\nH (m,())=some (R,())/\qi (m,())=some (cr,())/\jd (m,())=some (cr,())/\R.length<=2/\cr.length<=2:=by
 have cy:=hm.ok;obtain ⟨q,k,v,f,t,d,n,rfl,aD,aR,lO,ra⟩:=hm.form;have BG:q=0\/q=1\/q=2\/q=3\/q=4\/q=5:=by omega
 rcases BG with rfl |rfl |rfl |rfl |rfl |rfl
 ·have gQ:jz 0 k v f t d n=(1,k,v,([],[],()),[],[],n,()):=rfl;rw[gQ]at cy ⊢;have af:k∈jl:=cy.key (.inl rfl);have aZ:v.length<=10:=cy.val rfl;have L:=xj (a:=(k.length:Int)) (b:=1) (c:=65535) (by have:=(tX k af).1;omega) (by have:=(tX k af).2;omega);have aa:=xj (a:=n) (b:=0) (c:=1000000000) (by omega) (by omega);have a1:(decide ((((v.length):Int):Int)<=(64:Int)))=true:=am (by omega);have f4:(decide ((1:Int)=4))=false:=rfl;have f5:(decide ((1:Int)=5))=false:=rfl;have f6:(decide ((1:Int)=6))=false:=rfl;exact ⟨by simp only[qm,L2,cw,ak,L,a1,aa,MG,oI],[],[(k,(k++[0],()))],by simp only[rL,L1,cw,ak],by simp only[nH,rp,f4,f5,f6,ax],by simp only[qi,K6,cw,ak,(sd af).1],by simp only[jd,k3,cw,ak,(sd af).2],by simp,by simp⟩
 ·have gQ:jz 1 k v f t d n=(2,k,[],([],[],()),[],[],0,()):=rfl;rw[gQ]at cy ⊢;have af:k∈jl:=cy.key (.inr rfl);have L:=xj (a:=(k.length:Int)) (b:=1) (c:=65535) (by have:=(tX k af).1;omega) (by have:=(tX k af).2;omega);have f1:(decide ((2:Int)=1))=false:=rfl;have f4:(decide ((2:Int)=4))=false:=rfl;have f5:(decide ((2:Int)=5))=false:=rfl;have f6:(decide ((2:Int)=6))=false:=rfl;exact ⟨by simp only[qm,LX,f1,cw,ak,ax,L,ME,oI],[],[(k,(k++[0],()))],by simp only[rL,LW,f1,cw,ak,ax],by simp only[nH,rp,f4,f5,f6,ax],by simp only[qi,K0,f1,cw,ak,ax,(sd af).1],by simp only[jd,k3,f1,cw,ak,ax,(sd af).2],by simp,by simp⟩
 ·have gQ:jz 2 k v f t d n=(3,[],[],d,[],[],0,()):=rfl;rw[gQ]at cy ⊢;have ae:oN d:=cy.span (.inl rfl);have L:=acu ae lO ra;have f1:(decide ((3:Int)=1))=false:=rfl;have f2:(decide ((3:Int)=2))=false:=rfl;have f4:(decide ((3:Int)=4))=false:=rfl;have f5:(decide ((3:Int)=5))=false:=rfl;have f6:(decide ((3:Int)=6))=false:=rfl;exact ⟨by simp only[qm,K3,f1,f2,cw,ak,ax,L,LY,oI],[],[d],by simp only[rL,K2,f1,f2,cw,ak,ax],by simp only[nH,rp,f4,f5,f6,ax],by simp only[qi,Tp,f1,f2,cw,ak,ax],by simp only[jd,k3,f1,f2,f4,f5,ax],by simp,by simp⟩
 ·have gQ:jz 3 k v f t d n=(4,[],[],([],[],()),f,t,0,()):=rfl;rw[gQ]at cy ⊢;have aL:=cy.from_ (.inl rfl);have aT:=cy.to_ (.inl rfl);have L:=abS aL aT (cy.apart (.inl rfl));obtain ⟨fU,fV,-⟩:=kO f (kk f aL);obtain ⟨ah,aJ,-⟩:=kO t (kk t aT);have f1:(decide ((4:Int)=1))=false:=rfl;have f2:(decide ((4:Int)=2))=false:=rfl;have f3:(decide ((4:Int)=3))=false:=rfl;exact ⟨by simp only[qm,K5,f1,f2,f3,cw,ak,ax,L,LZ,oI],[dF f],[dF f,dF t],by simp only[rL,K4,f1,f2,f3,cw,ak,ax,fU],by simp only[nH,rp,cw,ak,fV],by simp only[qi,Tq,f1,f2,f3,cw,ak,ax,fU,ah],by simp only[jd,k3,f1,f2,cw,ak,ax,fV,aJ],by simp,by simp⟩
 ·have gQ:jz 4 k v f t d n=(5,[],[],([],[],()),f,t,0,()):=rfl;rw[gQ]at cy ⊢;have aL:=cy.from_ (.inr rfl);have aT:=cy.to_ (.inr rfl);have L:=abS aL aT (cy.apart (.inr rfl));obtain ⟨fU,fV,-⟩:=kO f (kk f aL);obtain ⟨ah,aJ,-⟩:=kO t (kk t aT);have f1:(decide ((5:Int)=1))=false:=rfl;have f2:(decide ((5:Int)=2))=false:=rfl;have f3:(decide ((5:Int)=3))=false:=rfl;have f4:(decide ((5:Int)=4))=false:=rfl;exact ⟨by simp only[qm,To,f1,f2,f3,f4,cw,ak,ax,L,KZ,oI],[dF f],[dF t],by simp only[rL,Tn,f1,f2,f3,f4,cw,ak,ax,fU],by simp only[nH,rp,f4,cw,ak,ax,fV],by simp only[qi,S7,f1,f2,f3,f4,cw,ak,ax,ah],by simp only[jd,k3,f1,f2,f4,cw,ak,ax,aJ],by simp,by simp⟩
 ·have gQ:jz 5 k v f t d n=(6,[],[],d,[],[],n,()):=rfl;rw[gQ]at cy ⊢;have ae:oN d:=cy.span (.inr rfl);have L:=acu ae lO ra;have aa:=xj (a:=n) (b:=0) (c:=1000000000) (by omega) (by omega);have f1:(decide ((6:Int)=1))=false:=rfl;have f2:(decide ((6:Int)=2))=false:=rfl;have f3:(decide ((6:Int)=3))=false:=rfl;have f4:(decide ((6:Int)=4))=false:=rfl;have f5:(decide ((6:Int)=5))=false:=rfl;exact ⟨by simp only[qm,Tt,f1,f2,f3,f4,f5,cw,ak,ax,L,aa,K7,oI],[d],[d],by simp only[rL,Ts,f1,f2,f3,f4,f5,cw,ak,ax],by simp only[nH,rp,f4,f5,cw,ak,ax],by simp only[qi,S8,f1,f2,f3,f4,f5,cw,ak,ax],by simp only[jd,k3,f1,f2,f4,f5,ax],by simp,by simp⟩
theorem aqt {d x:aK} (h:nu (d,x,())=some (true,())):lc (d,x,())=some (true,()):=by
 have iT: ∀y:aK,oD (y,())=k8 (y,()):=λy=>rfl
 obtain ⟨ex,hex⟩: ∃e,oD (x,())=some (e,()):=Am x;obtain ⟨es,adQ⟩: ∃e,oD (d,())=some (e,()):=Am d;have Ck:=(iT x).symm.trans hex;cases ex with
 |true=>simp only[lc,Ck,cP,ax]
 |false=>
  cases es with
  |true=>simp only[nu,hex,adQ,cK,cP,ak,ax]at h;cases h
  |false=>
   simp only[nu,hex,adQ,cK,ak]at h;cases fa:(Op.bytesLess d.1 x.1||decide ((d.1:M)=x.1)) with
   |false=>rw[fa]at h;cases h
   |true=>
    rw[fa]at h;simp only[ak]at h;have H0:Op.bytesLess x.1 d.1=false:=by
     rcases Bool.or_eq_true_iff.1 fa with s |s
     ·exact d9 s
     ·rw[of_decide_eq_true s];exact hJ _
    by_cases ae:d.2.1=[]
    ·have bC:b9 d x.1=true:=by unfold b9;rw[H0,am ae];rfl
     by_cases ai:x.2.1=[]
     ·have L:(decide ((d.2.1:M)=x.2.1))=true:=am (by rw[ae,ai]);simp only[lc,Ck,cK,ak,Al,bC,pZ,L];rfl
     ·have L:(decide ((d.2.1:M)=x.2.1))=false:=bf (by rw[ae];exact λh=>ai h.symm);simp only[lc,Ck,cK,ak,ax,Al,bC,pZ,L,am ae];rfl
    ·by_cases ai:x.2.1=[]
     ·simp only[rF,bf ae,cK,ak,am ai,cP,ax]at h;cases h
     ·simp only[rF,bf ae,bf ai,cK,ak]at h;have jg:Op.bytesLess d.2.1 x.2.1=false:=by
       cases J:Op.bytesLess d.2.1 x.2.1
       ·rfl
       ·rw[J]at h;cases h
      have cC:Op.bytesLess x.1 x.2.1=true:=by
       simp only[oD,bf ai,cK,ak]at hex;have he:(Op.bytesLess x.2.1 x.1||decide ((x.2.1:M)=x.1))=false:=congrArg Prod.fst (eW hex);rw[Bool.or_eq_false_iff]at he;rcases h0 x.1 x.2.1 with s |s |s
       ·exact s
       ·exact absurd s.symm (of_decide_eq_false he.2)
       ·rw[he.1]at s;cases s
      have vr:Op.bytesLess x.1 d.2.1=true:=by
       rcases h0 x.2.1 d.2.1 with s |s |s
       ·exact fZ cC s
       ·rw[<-s];exact cC
       ·rw[jg]at s;cases s
      have bC:b9 d x.1=true:=by unfold b9;rw[H0,vr];simp
      have Hs: ∀y:M,i7 (y,())=some (false,()):=λy=>by simp[i7]
      by_cases he:d.2.1=x.2.1
      ·simp only[lc,Ck,cK,ak,Al,bC,pZ,am he];rfl
      ·simp only[lc,Ck,cK,ak,ax,Al,bC,pZ,bf he,bf ae,bf ai,CX,Hs,jg,Bool.false_or];rfl
theorem ZZ {m:bB} {d:aK} {R cr:aq} (ko:nH (m,())=some (R,())) (hO:jd (m,())=some (cr,())) (au:R.length<=2) (hw:cr.length<=2) (h:kc (m,d,())=some (true,())): ∀x∈R++cr,nu (d,x,())=some (true,()):=by
 have L:(decide ((List.length ([]:List (aK))+R.length)*32<=bp))=true:=am (by rw[ek];simp;omega);have aa:(decide ((List.length (([]:List (aK))++R)+cr.length)*32<=bp))=true:=am (by rw[ek];simp;omega);obtain ⟨l,ab⟩: ∃l,([]++R)++cr=l:=⟨_,rfl⟩;have ad9:l.length<=4:=by rw[<-ab];simp;omega
 have ih:R++cr=l:=by rw[<-ab];rfl
 obtain ⟨z,s,E⟩:=dM (b:=td) (λi (_:G)=>((i:Int),d,l,())) l.length (λi _=> ∀j (an:j<l.length),j<i->nu (d,l[j],())=some (true,())) (λz=>z=.inl (false,())\/(z=.inr ()/\ ∀x∈l,nu (d,x,())=some (true,()))) (by omega)
  (λi u _ an=>by
   have L:=fe (i:=i) (l:=l) (by omega);have aa:=dZ i;have a1:=e1 i (by omega);obtain ⟨r,au⟩:=aaO d l[i];simp only[td,L,aa,ak,bM,bE,bW u,au,a1];cases r
   ·exact .inr ⟨_,.inl rfl,rfl⟩
   ·refine .inl ⟨(),λj hb bd=> ?_,rfl⟩;rcases Nat.lt_or_ge j i with h |h
    ·exact an j hb h
    ·have:j=i:=by omega
     subst this;exact au)
  (λ_ an=>by have L:=ga l;refine ⟨_,.inr ⟨rfl,λx ai=> ?_⟩,by simp only[td,L,ax]⟩;obtain ⟨j,hb,rfl⟩:=List.mem_iff_getElem.1 ai;exact an j hb hb) () (λj an h=>by omega)
 have dq:JQ (0,d,l,())=some z:=s;rcases E with rfl |⟨rfl,O⟩
 ·simp only[kc,ko,hO,L,aa,ak,ab,dq]at h;cases h
 ·intro x ai;rw[ih]at ai;exact O x ai
theorem aic {m:bB} {d:aK} {R cr:aq} (ko:nH (m,())=some (R,())) (hO:jd (m,())=some (cr,())) (au:R.length<=2) (hw:cr.length<=2) (h:kc (m,d,())=some (true,())): ∀x∈R++cr,lc (d,x,())=some (true,()):=
 λx ai=>aqt (ZZ ko hO au hw h x ai)
theorem are (l:aq) (d:aK) (ab:l.length<=1000) (h: ∀x∈l,lc (d,x,())=some (true,())):Hd (l,d,())=some (false,d,()):=by
 obtain ⟨z,s,rfl⟩:=dM (b:=BM) (λi (_:G)=>(l,(l.length:Int),(i:Int),d,())) l.length (λ_ _=>True) (λz=>z=.inr (d,())) (by omega)
  (λi u _ _=>by left;have L:=fe (i:=i) (l:=l) (by omega);have aa:=dZ i;have a1:=e1 i (by omega);exact ⟨(),trivial,by simp only[BM,L,aa,ak,ax,bM,bE,bW u,DY,h _ (dz u),cP,a1]⟩)
  (λ_ _=>by have L:=ga l;exact ⟨_,rfl,by simp only[BM,L,ax]⟩) () trivial
 have dq:PD (l,(l.length:Int),0,d,())=some (.inr (d,())):=s;have aa:(decide ((-1:Int)>=(0:Int)))=false:=rfl;simp only[Hd,P9,dq,aa]
theorem arf (l:aq) (d:aK) (ab:l.length<=1000) (h: ∀x∈l,lc (d,x,())=some (true,())):He (l,d,())=some (false,l,d,()):=by
 obtain ⟨z,s,rfl⟩:=dM (b:=BO) (λi (_:G)=>((l.length:Int),(i:Int),l,d,())) l.length (λ_ _=>True) (λz=>z=.inr (l,d,())) (by omega)
  (λi u _ _=>by left;have L:=fe (i:=i) (l:=l) (by omega);have aa:=dZ i;have a1:=e1 i (by omega);exact ⟨(),trivial,by simp only[BO,L,aa,ak,ax,bM,bE,bW u,DY,h _ (dz u),cP,a1]⟩)
  (λ_ _=>by have L:=ga l;exact ⟨_,rfl,by simp only[BO,L,ax]⟩) () trivial
 have dq:PE ((l.length:Int),0,l,d,())=some (.inr (l,d,())):=s;have aa:(decide ((-1:Int)>=(0:Int)))=false:=rfl;simp only[He,Qa,dq,aa]
theorem ajr {m:bB} {d:aK} (hm:gy m) (ab:kc (m,d,())=some (true,())):JV (m,d,())=some (false,d,()):=by obtain ⟨v,R,cr,s,E,O,aC,ba,bF⟩:=wU hm;have aS:=aic E aC ba bF ab;have ko:=are R d (by omega) (λx ai=>aS x (dk.2 (.inl ai)));have hO:=arf cr d (by omega) (λx ai=>aS x (dk.2 (.inr ai)));simp only[JV,v,s,O,ko,hO,cP,cK,ak]
theorem aiX (l:cG) (d:aK) (ab:l.length<=1000) (h: ∀m∈l,gy m/\kc (m,d,())=some (true,())):Hz (l,d,())=some (false,d,()):=by
 obtain ⟨z,s,rfl⟩:=dM (b:=Bv) (λi (_:G)=>(l,(l.length:Int),(i:Int),d,())) l.length (λ_ _=>True) (λz=>z=.inr (d,())) (by omega)
  (λi u _ _=>by left;have L:=fe (i:=i) (l:=l) (by omega);have aa:=dZ i;have a1:=e1 i (by omega);obtain ⟨a7,aX⟩:=h _ (dz u);exact ⟨(),trivial,by simp only[Bv,L,aa,ak,ax,bM,bE,bW u,ajr a7 aX,a1]⟩)
  (λ_ _=>by have L:=ga l;exact ⟨_,rfl,by simp only[Bv,L,ax]⟩) () trivial
 have dq:Qf (l,(l.length:Int),0,d,())=some (.inr (d,())):=s;have aa:(decide ((-1:Int)>=(0:Int)))=false:=rfl;simp only[Hz,io,dq,aa]
theorem aqk {q:eQ} (h:jS q):JM (q,())=some (true,()):=by
 obtain ⟨⟨dY,a2,a3⟩,b1,b2,b3⟩:=h;obtain ⟨l,ab⟩: ∃l:List kK,[q.1,q.2.1]=l:=⟨_,rfl⟩;have dO: ∀r∈l,0<=r.1/\r.1<=r.2.1/\r.2.1<=1000000000000000:=by
  intro r au;rw[<-ab]at au;simp only[eO,List.not_mem_nil,or_false]at au;rcases au with rfl |rfl
  ·exact ⟨dY,a2,a3⟩
  ·exact ⟨b1,b2,b3⟩
 have ad9:l.length=2:=by rw[<-ab];rfl
 obtain ⟨z,s,rfl⟩:=dM (b:=C8) (λi (_:G)=>((l.length:Int),(i:Int),l,())) l.length (λ_ _=>True) (λz=>z=.inr ()) (by omega)
  (λi u _ _=>by left;have L:=fe (i:=i) (l:=l) (by omega);have aa:=dZ i;have a1:=e1 i (by omega);obtain ⟨a7,aX,c3⟩:=dO _ (dz u);have bq:(decide (l[i].1<(0:Int)))=false:=bf (by omega);have cU:(decide (l[i].1>l[i].2.1))=false:=bf (by omega);have dp:(decide (l[i].2.1>(1000000000000000:Int)))=false:=bf (by omega);exact ⟨(),trivial,by simp only[C8,L,aa,ak,ax,bM,bE,bW u,bq,cU,dp,cK,a1]⟩)
  (λ_ _=>by have L:=ga l;exact ⟨_,rfl,by simp only[C8,L,ax]⟩) () trivial
 have dq:S9 ((l.length:Int),0,l,())=some (.inr ()):=s;simp only[JM,ab,dq]
def Er (ps:bc) (d:aK):Prop:= ∀i (h:i<ps.length),Op.bytesLess (List.getD (d.1::ps) i []) ps[i]=true/\(d.2.1=[]\/Op.bytesLess ps[i] d.2.1=true)
theorem a28 (ps:bc) (n:cZ) (d:aK) (ab:ps.length<=1000) (h:Er ps d):L4 (d.1,ps,(ps.length:Int),0,n,d,())=some (.inr (n,d,())):=by
 obtain ⟨z,s,rfl⟩:=dM (b:=vM) (λi (_:G)=>(List.getD (d.1::ps) i [],ps,(ps.length:Int),(i:Int),n,d,())) ps.length (λ_ _=>True) (λz=>z=.inr (n,d,())) (by omega)
  (λi u _ _=>by
   left;have L:=fe (i:=i) (l:=ps) (by omega);have aa:=dZ i;have a1:=e1 i (by omega);obtain ⟨a7,aX⟩:=h i u;have bq:=d9 a7;have cU:(decide ((ps[i]:M)=List.getD (d.1::ps) i []))=false:=bf (λe=>by rw[<-e,hJ]at a7;cases a7);have dp:List.getD (d.1::ps) (i+1) []=ps[i]:=by show ps.getD i []=_;exact bW u
   refine ⟨(),trivial,?_⟩;rw[dp];rcases aX with aX |aX
   ·simp only[vM,L,aa,ak,ax,bM,bE,bW u,bq,cU,Bool.or_false,cK,am aX,cP,a1]
   ·cases al:(!decide (d.2.1=([]:M)))
    ·simp only[vM,L,aa,ak,ax,bM,bE,bW u,bq,cU,Bool.or_false,cK,al,a1]
    ·simp only[vM,L,aa,ak,ax,bM,bE,bW u,bq,cU,Bool.or_false,cK,al,aX,cP,a1])
  (λ_ _=>by have L:=ga ps;exact ⟨_,rfl,by simp only[vM,L,ax]⟩) () trivial
 exact s
theorem aiv (ks:fh) (n:cZ) (d:aK) (ab:ks.length<=1000) (af: ∀k∈ks,k<4096) (ae:n.2.2.2.1.length=ks.length) (u: ∀q∈n.2.2.2.1,jS q):L5 (bP ks,(ks.length:Int),0,n,d,())=some (.inr (n,d,())):=by
 obtain ⟨S,je⟩: ∃S,n.2.2.2.1=S:=⟨_,rfl⟩;rw[je]at ae u;obtain ⟨z,s,rfl⟩:=dM (b:=DG) (λi (_:G)=>(bP ks,(ks.length:Int),(i:Int),n,d,())) ks.length (λ_ _=>True) (λz=>z=.inr (n,d,())) (by omega)
  (λi e8 _ _=>by
   left;have ad2:i<S.length:=by omega
   have L:(decide (((i:Nat):Int)<((ks.length:Nat):Int)))=true:=am (by omega);have asS:(decide (((i:Nat):Int)<((List.length (bP ks):Nat):Int)))=true:=am (by rw[fL];omega);have asT:(decide (((i:Nat):Int)<((S.length:Nat):Int)))=true:=am (by omega);have aa:=dZ i;have a1:=e1 i (by omega);have jM:=af _ (dz e8);have bq:(decide (((ks[i]:Nat):Int)<(0:Int)))=false:=bf (by omega);have cU:(decide (((ks[i]:Nat):Int)>=(4096:Int)))=false:=bf (by omega);exact ⟨(),trivial,by simp only[DG,je,L,asS,asT,aa,ak,ax,bM,bE,m2 e8,bW ad2,bq,cU,cK,aqk (u _ (dz ad2)),cP,a1]⟩)
  (λ_ _=>by have L:(decide (((ks.length:Nat):Int)<((ks.length:Nat):Int)))=false:=bf (by omega);exact ⟨_,rfl,by simp only[DG,L,ax]⟩) () trivial
 exact s
theorem apO {piv:bc} {ks:fh} {sums:hH} {buf:cG} {d:aK} (s:ks.length=piv.length+1) (E:sums.length=ks.length) (hR:ks.length<=100) (aP:Er piv d) (af: ∀k∈ks,k<4096) (ae: ∀q∈sums,jS q) (J: ∀m∈buf,gy m/\kc (m,d,())=some (true,())) (QD:buf.length<=100):
  zo (([],piv,bP ks,sums,buf,()),d,())=some (true,()):=by
 have b6:(decide ((ks.length:Int)=(0:Int)))=false:=bf (by omega);have L:(decide ((((List.length ([]:aj)):Int):Int)>(0:Int)))=false:=rfl;have aa:(decide ((((sums.length):Int):Int)=(ks.length:Int)))=true:=am (by omega);have a1:i64.wrap ((ks.length:Int)-1)=(piv.length:Int):=by rw[cI (by omega)];omega
 have bq:(decide ((((piv.length):Int):Int)=(piv.length:Int)))=true:=am rfl;have g1:=a28 piv ([],piv,bP ks,sums,buf,()) d (by omega) aP;have g2:=aiv ks ([],piv,bP ks,sums,buf,()) d (by omega) af E ae;have g3:=aiX buf d (by omega) J;have cU:((List.length (bP ks):Nat):Int)=(ks.length:Int):=by rw[fL]
 simp only[zo,b6,L,aa,a1,bq,ax,cK,cP,ak,JK,g1,cU,g2,g3,cw]
theorem aiA {P:bc} (hN:P.Pairwise λa b=>Op.bytesLess a b=true) (d:aK):Er (cl P d) d:=by
 have hm:(cl P d).Pairwise λa b=>Op.bytesLess a b=true:=List.Pairwise.filter _ hN
 have aL: ∀k∈cl P d,Op.bytesLess d.1 k=true/\(d.2.1=[]\/Op.bytesLess k d.2.1=true):=by
  intro k af;obtain ⟨-,E⟩:=eV.1 af;simp only[bN,eJ,Bool.or_eq_false_iff,b9,Bool.or_eq_true_iff,dJ,decide_eq_false_iff_not]at E;obtain ⟨⟨dY,a2⟩,a3,a4⟩:=E;refine ⟨?_,a4⟩;rcases h0 d.1 k with h |h |h
  ·exact h
  ·exact absurd h.symm a2
  ·rw[h]at dY;cases dY
 intro i u;refine ⟨?_,(aL _ (dz u)).2⟩;cases i with
 |zero=>exact (aL _ (dz u)).1
 |succ i=>
  show Op.bytesLess (List.getD (cl P d) i []) _=true;rw[bW (show i<(cl P d).length by omega)];exact List.pairwise_iff_getElem.1 hm _ _ _ u (by omega)
def qX:List bc->aK->Bool
 |[],_=>true
 |P::ay,d=>(match rO (d,cl P d,()) with
   |some (l,_)=>decide (l=partsOf d (cl P d))
   |none=>false)&&(partsOf d (cl P d)).all (qX ay)
theorem acv: ∀ay∈nd,qX ay cO=true:=by
 have h:nd.all (λay=>qX ay cO)=true:=by kernel_rfl
 exact λay aP=>fy.1 h ay aP
theorem abj: ∀ay∈nd,∀P∈ay,P.Pairwise λa b=>Op.bytesLess a b=true:=by decide
theorem aau {P:bc} {ay:List bc} {d:aK} (h:qX (P::ay) d=true):rO (d,cl P d,())=some (partsOf d (cl P d),())/\ ∀q∈partsOf d (cl P d),qX ay q=true:=by
 rw[qX,bN]at h;obtain ⟨s,E⟩:=h;refine ⟨?_,λq aD=>fy.1 E q aD⟩;cases e:rO (d,cl P d,()) with
 |none=>rw[e]at s;cases s
 |some r=>
  obtain ⟨l,ad⟩:=r;rw[e]at s;have:l=partsOf d (cl P d):=of_decide_eq_true s;rw[this]
theorem ZC {n:cZ} {d:aK} {l:aq} (b8:n.2.2.1≠[]) (h:rO (d,n.2.1,())=some (l,())):Ac (n,d,())=some (l,()):=by
 have b6:(decide ((((n.2.2.1.length):Int):Int)=(0:Int)))=false:=bf (by have:=List.length_pos_iff.2 b8;omega)
 simp only[Ac,b6,ax,h]
theorem ask {V:da} {t:aj} (aT:cQ t): ∀{ay:List bc} {d:aK} {i:Nat},(∀q∈ay,q.length<=5)->hp V t ay d i-> ∃n q,V[i]? =some n/\uz (n,())=some (q,())/\m4 (n,())=some (q,())/\jS q
 |[],d,i,_,h=>by obtain ⟨q,s,E,O⟩:=asd (n:=(inS d t,[],[],[],[],())) rfl (λp aP=>(aT.inS d).chg p aP) (by have:=(aT.inS d).len;show (inS d t).length<=_;omega);exact ⟨_,q,h,s,E,O⟩
 |P::ay,d,i,aD,⟨ks,sums,buf,s,E,O,aC,ba,bF,dN,ig⟩=>by
  have hm:=ux P d;have hN:=aD P gh;have ae: ∀q∈sums,jS q:=by intro q Rh;obtain ⟨j,an,rfl⟩:=List.mem_iff_getElem.1 Rh;obtain ⟨a7,n,aX,c3⟩:=ig j (by omega);obtain ⟨dP,bG,d1,d2,d3,d4⟩:=ask aT (λq jN=>aD q (gO _ jN)) a7;obtain rfl:=eW (aX.symm.trans d1);rw[bW an]at c3;have:=eW (c3.symm.trans d3);have xY:sums[j]=bG:=congrArg Prod.fst this;rw[xY];exact d4
  obtain ⟨q,g1,g2,g3⟩:=arw (n:=([],cl P d,bP ks,sums,buf,())) (by intro e;have:=congrArg List.length e;have aa:(bP ks).length=([]:dR).length:=this;rw[fL,List.length_nil]at aa;omega) ae (by show sums.length<=1000;omega) (λm hm=>(dN m hm).1) (by show buf.length<=1000;omega)
  exact ⟨_,q,s,g1,g2,g3⟩
theorem acD {ks:fh} (h:0<ks.length):bP ks≠[]:=by intro e;have:=congrArg List.length e;rw[fL,List.length_nil]at this;omega
theorem asn (w:Int) (hw:0<=w/\w<256):zr (pD w,())=some (true,()):=by
 obtain ⟨m,rfl⟩:=Int.eq_ofNat_of_zero_le hw.1;have aw:(List.range 256).all (λk=>match zr (pD ((k:Nat):Int),()) with |some (b,_)=>b |none=>false)=true:=by kernel_rfl
 have:=fy.1 aw m (List.mem_range.2 (by omega));cases e:zr (pD ((m:Nat):Int),()) with
 |none=>rw[e]at this;cases this
 |some q=>
  obtain ⟨b,ad⟩:=q;rw[e]at this;have J:b=true:=this;rw[J]
theorem hp.set {V:da} {t:aj} {r:Nat} (aY:cZ): ∀{ay:List bc} {d:aK} {i:Nat},i<r->hp V t ay d i->hp (V.set r aY) t ay d i
 |[],d,i,u,h=>by show (V.set r aY)[i]? =_;rw[List.getElem?_set_ne (by omega)];exact h
 |P::ay,d,i,u,⟨ks,sums,buf,s,E,O,aC,ba,bF,dN,ig⟩=>by
  refine ⟨ks,sums,buf,?_,E,O,aC,ba,bF,dN,λj an=> ?_⟩
  ·rw[List.getElem?_set_ne (by omega)];exact s
  ·have af:ks.getD j 0<i:=by rw[bW an];exact ba _ (dz an)
   obtain ⟨a7,n,aX,c3⟩:=ig j an;exact ⟨a7.set aY (by omega),n,by rw[List.getElem?_set_ne (by omega)];exact aX,c3⟩
structure ayd (V:da) (t:aj) (P:bc) (ay:List bc) (root:Nat) (ks:fh) (sums:hH) (buf:cG):Prop where
 n:V[root]? =some ([],cl P cO,bP ks,sums,buf,())
 kl:ks.length=(cl P cO).length+1
 sl:sums.length=ks.length
 ml:(cl P cO).length<=5
 piv:Er (cl P cO) cO
 lt: ∀k∈ks,k<root
 r:root<900
 ins: ∀q∈sums,jS q
 bl:buf.length<=5
 buf: ∀m∈buf,gy m/\kc (m,cO,())=some (true,())
 kid: ∀j,j<ks.length->hp V t ay (List.getD (partsOf cO (cl P cO)) j cO) (ks.getD j 0)/\qC V (ks.getD j 0) (sums.getD j nR)
 sp:rO (cO,cl P cO,())=some (partsOf cO (cl P cO),())
 pl:(partsOf cO (cl P cO)).length=(cl P cO).length+1
 good: ∀q∈partsOf cO (cl P cO),qX ay q=true
section
variable {V:da} {t:aj} {P:bc} {ay:List bc} {root:Nat} {ks:fh} {sums:hH} {buf:cG}
end
theorem Gl {x y:M}:(mL x y<0)↔Op.bytesLess x y=true:=by
 unfold mL;split
 ·simp[*]
 ·rename_i h;split
  ·rename_i he;subst he;simp[hJ]
  ·simp[h]
theorem asD (l:aj) (k:M) (ae:cH bK l) (ab:l.length<10^13):
  GX (l,k,())=some ((c7 bK k l:Int),fs (key:=bK) k l,()):=by
 have hle:=oQ (key:=bK) k l;obtain ⟨r,s,E⟩:=Ap (b:=GW) (λd=>(d.2.2.2.2.1-d.2.2.2.1).toNat)
  (λd=> ∃dh dK:Nat,d=(l,k,(l.length:Int),(dh:Int),(dK:Int),())/\dh<=dK/\dK<=l.length/\(∀(m:Nat) (h:m<l.length),m<dh->Op.bytesLess (l[m]).1 k=true)/\(∀(m:Nat) (h:m<l.length),dK<=m->Op.bytesLess (l[m]).1 k=false))
  (λr=>r=.inl (l,k,(l.length:Int),(c7 bK k l:Int),()))
  (λd u=>by
   obtain ⟨dh,dK,rfl,i1,i2,i3,i4⟩:=u;have hm:=UB (dh:=dh) (dK:=dK) (by omega);unfold GW;simp only[hm];by_cases pj:dh<dK
   ·left;have a7:((dh:Int)<(dK:Int)):=by omega
    have dn:i64.wrap (((dh+dK)/2:Nat):Int)=(((dh+dK)/2:Nat):Int):=cI (by omega);have aX:((0:Int)<=(((dh+dK)/2:Nat):Int)):=by omega
    have c3:((((dh+dK)/2:Nat):Int)<(l.length:Int)):=by omega
    have bd:(dh+dK)/2<l.length:=by omega
    have bu:l.getD ((dh+dK)/2) (([]:M),(([]:M),((0:Int),())))=l[(dh+dK)/2]:=bW bd;have de:i64.wrap ((((dh+dK)/2:Nat):Int)+1)=(((dh+dK)/2+1:Nat):Int):=by rw[cI (by omega)];omega
    simp only[dn,a7,aX,c3,am,ak,bM,bE,bu,aaT,de];cases J:Op.bytesLess (l[(dh+dK)/2]).1 k
    ·have e5: ¬(mL (l[(dh+dK)/2]).1 k<0):=by rw[Gl,J];simp
     simp only[e5,bf,ax,not_false_eq_true];refine ⟨_,rfl,⟨dh,(dh+dK)/2,rfl,by omega,by omega,i3,λm h hm=> ?_⟩,by simp;omega⟩;rcases Nat.lt_or_ge m dK with ba |ba
     ·cases en:Op.bytesLess (l[m]).1 k
      ·rfl
      ·rcases Nat.eq_or_lt_of_le hm with bF |bF
       ·subst bF;rw[J]at en;cases en
       ·have dN:Op.bytesLess (l[(dh+dK)/2]).1 (l[m]).1=true:=List.pairwise_iff_getElem.1 ae _ _ bd h bF;have:=fZ dN en;rw[J]at this;cases this
     ·exact i4 m h ba
    ·have e5:(mL (l[(dh+dK)/2]).1 k<0):=by rw[Gl,J]
     simp only[e5,am,ak];refine ⟨_,rfl,⟨(dh+dK)/2+1,dK,rfl,by omega,i2,λm h hm=> ?_,i4⟩,by simp;omega⟩;rcases Nat.eq_or_lt_of_le (show m<=(dh+dK)/2 by omega) with bF |bF
     ·subst bF;exact J
     ·have dN:Op.bytesLess (l[m]).1 (l[(dh+dK)/2]).1=true:=List.pairwise_iff_getElem.1 ae _ _ h bd bF;exact fZ dN J
   ·right;have a7: ¬((dh:Int)<(dK:Int)):=by omega
    have he:dh=dK:=by omega
    subst he;simp only[a7,bf,ax,not_false_eq_true];refine ⟨_,rfl,?_⟩;have:=NH (key:=bK) k l ae dh i2 i3 i4;rw[this])
  (l,k,(l.length:Int),(0:Int),(l.length:Int),()) ⟨0,l.length,by simp,by omega,by omega,λm h hm=>by omega,λm h hm=>by omega⟩ (by simp;omega)
 subst E;unfold GX Pu;simp only[s];by_cases bd:c7 bK k l<l.length
 ·have a7:((c7 bK k l:Int)<(l.length:Int)):=by omega
  have aX:((0:Int)<=(c7 bK k l:Int)):=by omega
  have bu:l.getD (c7 bK k l) (([]:M),(([]:M),((0:Int),())))=l[c7 bK k l]:=bW bd;simp only[a7,aX,am,ak,bM,bE,bu,aaT];rw[Gr k l ae bd];congr 2;have:(mL (l[c7 bK k l]).1 k=0)↔(l[c7 bK k l]).1=k:=ai1;simp only[this]
 ·have a7: ¬((c7 bK k l:Int)<(l.length:Int)):=by omega
  simp only[a7,bf,ax,not_false_eq_true];rw[AA k l (by omega)]
theorem F0 (l:aj) (k:M) (ae:cH bK l) (ab:l.length<10^13):wb (l,k,())=some ((c7 bK k l:Int),fs (key:=bK) k l,()):=by unfold wb;simp only[asD l k ae ab]
section
variable {α:Type} {key:α->M}
theorem AZ (k:M): ∀l:List α,cH key l->l.take (c7 key k l)=l.filter λa=>Op.bytesLess (key a) k
 |[],_=>rfl
 |a::l,ae=>by
  unfold c7;by_cases h:Op.bytesLess (key a) k=true
  ·rw[if_pos h,List.take_succ_cons,AZ k l ae.tail,List.filter_cons,if_pos h]
  ·rw[if_neg h,List.take_zero]
   symm
   rw[List.filter_eq_nil_iff];intro b J bd;rcases eO.1 J with rfl |J
   ·exact h bd
   ·exact h (fZ (ae.head b J) bd)
theorem Gq (k:M): ∀l:List α,cH key l->l.drop (c7 key k l)=l.filter λa=> !Op.bytesLess (key a) k
 |[],_=>rfl
 |a::l,ae=>by
  unfold c7;by_cases h:Op.bytesLess (key a) k=true
  ·rw[if_pos h,List.drop_succ_cons,Gq k l ae.tail,List.filter_cons,if_neg (by rw[h];simp)]
  ·rw[if_neg h,List.drop_zero]
   symm
   rw[List.filter_eq_self];intro b J;rcases eO.1 J with rfl |J
   ·simpa using h
   ·cases bd:Op.bytesLess (key b) k
    ·rfl
    ·exact absurd (fZ (ae.head b J) bd) h
theorem A7 {aM u:M} (h:Op.bytesLess aM u=true): ∀l:List α,cH key l->c7 key aM l<=c7 key u l
 |[],_=>b7 _
 |a::l,ae=>by
  unfold c7;have aQ:=A7 h l ae.tail;by_cases s:Op.bytesLess (key a) aM=true
  ·rw[if_pos s,if_pos (fZ s h)];omega
  ·rw[if_neg s];omega
theorem aje {aM u:M} (h:Op.bytesLess aM u=true) (l:List α) (ae:cH key l):(l.take (c7 key u l)).drop (c7 key aM l)=l.filter λa=> !Op.bytesLess (key a) aM&&Op.bytesLess (key a) u:=by
 have e:c7 key aM (l.take (c7 key u l))=c7 key aM l:=by
  symm
  have hle:=A7 h l ae;have QZ:=oQ (key:=key) u l;apply NH aM _ (List.Pairwise.sublist (List.take_sublist _ _) ae)
  ·rw[eG];omega
  ·intro m hm s;rw[List.getElem_take];exact Pk aM l m (by rw[eG]at hm;omega) s
  ·intro m hm s;rw[List.getElem_take];exact Pj aM l ae m (by rw[eG]at hm;omega) s
 conv=>lhs;rw[<-e]
 rw[Gq aM _ (List.Pairwise.sublist (List.take_sublist _ _) ae),AZ u l ae,List.filter_filter]
end
theorem O0 (d:aK) (k:M):As (d,k,())=some (b9 d k,()):=by unfold As b9;cases Op.bytesLess k d.1<;>cases decide ((d.2.1:M)=[])<;>simp
theorem abZ (d:aK) (h:oN d):k8 (d,())=some (false,()):=by
 unfold k8;rcases h with h |h
 ·have:decide ((d.2.1:M)=[])=true:=am h;simp only[this,cP,ax]
 ·have aR:d.2.1≠[]:=by intro e;rw[e]at h;cases d.1<;>simp[Op.bytesLess]at h
  have:decide ((d.2.1:M)=[])=false:=bf aR;have E:decide ((d.2.1:M)=d.1)=false:=bf (λe=>lT h e.symm);simp only[this,cK,ak,d9 h,E,Bool.or_self]
theorem asi (t:aj) (d:aK) (h:oN d) (ae:cH bK t) (ab:t.length<10^13):Fh (t,d,())=some (t.filter (λp=>b9 d p.1),()):=by
 have s:=oQ (key:=bK) d.1 t;have E:=oQ (key:=bK) d.2.1 t;unfold Fh DW;simp only[abZ d h,ax,F0 t _ ae ab];by_cases aR:d.2.1=[]
 ·have c:decide ((d.2.1:M)=[])=true:=am aR;have a7:((0:Int)<=(c7 bK d.1 t:Int)):=by omega
  have aX:((c7 bK d.1 t:Int)<=(t.length:Int)):=by omega
  simp only[c,cP,ax,a7,aX,am,bM,ak,Int.le_refl,bE,eM];rw[Gq d.1 t ae];congr 2;apply List.filter_congr;intro p _;unfold b9;simp[aR,bK]
 ·have bd:=h.resolve_left aR;have O:=A7 (key:=bK) bd t ae;have c:decide ((d.2.1:M)=[])=false:=bf aR;have a7:((0:Int)<=(c7 bK d.1 t:Int)):=by omega
  have aX:((c7 bK d.1 t:Int)<=(c7 bK d.2.1 t:Int)):=by omega
  have c3:((c7 bK d.2.1 t:Int)<=(t.length:Int)):=by omega
  simp only[c,cK,ak,a7,aX,c3,am,bM,bE];rw[aje bd t ae];congr 2;apply List.filter_congr;intro p _;unfold b9;simp[aR,bK]
section
variable {α:Type} {key:α->M}
theorem F9 {x:α}: ∀{l:List α},(∀b∈l,Op.bytesLess (key b) (key x)=true)->hV key x l=l++[x]
 |[],_=>rfl
 |a::l,h=>by unfold hV;rw[if_neg (by rw[d9 (h a gh)];simp),F9 (λb J=>h b (gO _ J))];rfl
theorem N2 {x a:α} (h:Op.bytesLess (key x) (key a)=true): ∀l:List α,hV key x (l++[a])=hV key x l++[a]
 |[]=>by simp[hV,h]
 |b::l=>by
  have aQ:=N2 h l;simp only[List.cons_append,hV];by_cases J:Op.bytesLess (key x) (key b)=true
  ·rw[if_pos J,if_pos J];rfl
  ·rw[if_neg J,if_neg J,aQ];rfl
theorem OJ {k:M} {a:α} (l:List α):ir key k (l++[a])=ir key k l++(if key a=k then [] else [a]):=by unfold ir;rw[List.filter_append];congr 1;by_cases h:key a=k<;>simp[h]
end
theorem aav (t:aj) (p:b5) (ae:cH bK t) (ab:t.length<10^12):wt (t,p,())=some (hV bK p (ir bK p.1 t),()):=by
 obtain ⟨r,s,E⟩:=dM (b:=vD) (λi (d:Bool×aj)=>(t,d.1,(i:Int),p,d.2,())) t.length
  (λi d=>d.2.length<=i+1/\(d.1=false->d.2=t.take i/\ ∀b∈t.take i,Op.bytesLess b.1 p.1=true)/\(d.1=true->d.2=hV bK p (ir bK p.1 (t.take i))/\ ∃b∈t.take i,Op.bytesLess b.1 p.1=false))
  (λr=> ∃I o,r=.inl (I,p,o,())/\o.length<=t.length+1/\(bif I then o else o++[p])=hV bK p (ir bK p.1 t)) (by omega)
  (λi u d q9=>by
   left;obtain ⟨I,o⟩:=d;obtain ⟨W,aL,Ru⟩:=q9;have W:o.length<=i+1:=W;have a7:((i:Int)<(t.length:Int)):=by omega
   have aX:((0:Int)<=(i:Int)):=by omega
   have bu:t.getD i (([]:M),(([]:M),((0:Int),())))=t[i]:=bW u;have w:=e1 i (by omega);have room: ∀(o:aj) (q:b5),o.length<=i+2->(o.length+([q]:aj).length)*40<=bp:=λo q h=>by rw[ek];simp;omega
   have jy:t.take (i+1)=t.take i++[t[i]]:=eY u;have auj: ∀b∈t.take i,Op.bytesLess b.1 (t[i]).1=true:=by intro b J;obtain ⟨j,an,rfl⟩:=List.getElem_of_mem J;rw[List.getElem_take];rw[eG]at an;exact List.pairwise_iff_getElem.1 ae j i (by omega) u (by omega)
   have Iq: ∀(I:Bool) (o:aj),o.length<=i+2->IG (t,I,(i:Int),p,o,())=some (.inl (t,I,((i+1:Nat):Int),p,(if (t[i]).1=p.1 then o else o++[t[i]]),())):=by
    intro I o h;unfold IG;by_cases he:(t[i]).1=p.1
    ·simp only[a7,aX,am,ak,bM,bE,bu,w,he,cP,ax,if_pos]
    ·simp only[a7,aX,am,ak,bM,bE,bu,w,bf he,cK,room o _ h,if_neg he]
   cases I with
   |false=>
    obtain ⟨rfl,gE⟩:=aL rfl;have hw:ir bK p.1 (t.take i)=t.take i:=by apply Gh;rw[fs,List.any_eq_false];intro b J;have:=lT (gE b J);simpa using this
    have QA: ∀c,c=(Op.bytesLess p.1 (t[i]).1||decide (p.1=(t[i]).1))->vD (t,false,(i:Int),p,t.take i,())=i9 (t,false,(i:Int),c,p,t.take i,()):=by intro c aw;unfold vD;simp only[a7,aX,am,ak,bM,bE,bu,cK,aw]
    have hlen:(t.take i).length<=i:=by rw[eG];omega
    by_cases bd:Op.bytesLess p.1 (t[i]).1=true
    ·have cC: ¬(t[i]).1=p.1:=λe=>lT bd e.symm
     refine ⟨(true,t.take i++[p]++[t[i]]),⟨by simp;omega,(by intro h;cases h),λ_=>⟨?_,t[i],by rw[jy];exact List.mem_append_right _ (fJ.2 rfl),d9 bd⟩⟩,?_⟩
     ·rw[jy,OJ,if_neg cC,hw,N2 (key:=bK) bd,F9 (key:=bK) gE]
     ·rw[QA true (by rw[bd];rfl)];unfold i9;simp only[ak,room (t.take i) p (by omega),am];rw[Iq true _ (by simp;omega),if_neg cC]
    ·have bd:Op.bytesLess p.1 (t[i]).1=false:=by simpa using bd
     by_cases he:(t[i]).1=p.1
     ·refine ⟨(true,t.take i++[p]),⟨by simp;omega,(by intro h;cases h),λ_=>⟨?_,t[i],by rw[jy];exact List.mem_append_right _ (fJ.2 rfl),by rw[he];exact hJ _⟩⟩,?_⟩
      ·rw[jy,OJ,if_pos he,List.append_nil,hw,F9 (key:=bK) gE]
      ·rw[QA true (by rw[bd,am he.symm];rfl)];unfold i9;simp only[ak,room (t.take i) p (by omega),am];rw[Iq true _ (by simp;omega),if_pos he]
     ·have p9:Op.bytesLess (t[i]).1 p.1=true:=by
       rcases h0 p.1 (t[i]).1 with h |h |h
       ·rw[h]at bd;cases bd
       ·exact absurd h.symm he
       ·exact h
      refine ⟨(false,t.take i++[t[i]]),⟨by simp;omega,λ_=>⟨jy.symm,?_⟩,by intro h;cases h⟩,?_⟩
      ·rw[jy];intro b J;rcases dk.1 J with J |J
       ·exact gE b J
       ·obtain rfl:=fJ.1 J;exact p9
      ·rw[QA false (by rw[bd,bf (λe=>he e.symm)];rfl)];unfold i9;simp only[ax];rw[Iq false _ (by omega),if_neg he]
   |true=>
    obtain ⟨rfl,b,J,QG⟩:=Ru rfl;have Cb:=auj b J;have ael:Op.bytesLess p.1 (t[i]).1=true:=by
     rcases h0 p.1 b.1 with h |h |h
     ·exact fZ h Cb
     ·rw[h];exact Cb
     ·rw[h]at QG;cases QG
    have cC: ¬(t[i]).1=p.1:=λe=>lT ael e.symm
    refine ⟨(true,hV bK p (ir bK p.1 (t.take i))++[t[i]]),⟨?_,(by intro h;cases h),λ_=>⟨?_,b,by rw[jy];exact List.mem_append_left _ J,QG⟩⟩,?_⟩
    ·rw[fr,Ga];have hw:((ir bK p.1 (t.take i)).length)+1<=i+1:=by have:=W;rw[Ga]at this;exact this
     simp;omega
    ·rw[jy,OJ,if_neg cC,N2 (key:=bK) ael]
    ·unfold vD i9;simp only[a7,am,ak,ax,cP];rw[Iq true _ (by omega),if_neg cC])
  (λd q9=>by
   obtain ⟨I,o⟩:=d;obtain ⟨W,aL,Ru⟩:=q9;have W:o.length<=t.length+1:=W;have a7: ¬((t.length:Int)<(t.length:Int)):=by omega
   refine ⟨.inl (I,p,o,()),⟨I,o,rfl,W,?_⟩,?_⟩
   ·cases I with
    |true=>
     have e:=(Ru rfl).1;rw[eM]at e;exact e
    |false=>
     obtain ⟨e,gE⟩:=aL rfl;rw[eM]at e gE;have e:o=t:=e;subst e;have hw:ir bK p.1 o=o:=by apply Gh;rw[fs,List.any_eq_false];intro b J;have:=lT (gE b J);simpa using this
     rw[hw,F9 (key:=bK) gE];rfl
   ·unfold vD;simp only[a7,bf,ax,not_false_eq_true]) (false,[]) ⟨by simp,λ_=>by simp,by intro h;cases h⟩
 obtain ⟨I,o,rfl,W,he⟩:=E;have s:b4 vD (t,false,(0:Int),p,([]:aj),())=some (.inl (I,p,o,())):=s;unfold wt W4;simp only[s];rw[<-he];cases I with
 |true=>simp
 |false=>
  have c3:(o.length+([p]:aj).length)*40<=bp:=by rw[ek];simp;omega
  simp only[cK,ak,c3,am,ax]
theorem acV (l:aq) (k:M) (ab:l.length<10^12):F1 (l,k,())=some (l.any (λd=>b9 d k),()):=by
 obtain ⟨r,s,E⟩:=dM (b:=Ek) (λi (d:G)=>(l,k,(i:Int),())) l.length (λi d=>(l.take i).any (λd=>b9 d k)=false)
  (λr=>(r=.inl (true,())/\l.any (λd=>b9 d k)=true)\/(r=.inr ()/\l.any (λd=>b9 d k)=false)) (by omega)
  (λi u d ae=>by
   have a7:((i:Int)<(l.length:Int)):=by omega
   have aX:((0:Int)<=(i:Int)):=by omega
   have bu:l.getD i (([]:M),(([]:M),()))=l[i]:=bW u;have w:=e1 i (by omega);unfold Ek;simp only[a7,aX,am,ak,bM,bE,bu,w,O0];cases h:b9 l[i] k
   ·left;refine ⟨(),?_,by simp⟩;rw[eY u,List.any_append,ae];simp[h]
   ·right;refine ⟨.inl (true,()),.inl ⟨rfl,?_⟩,by simp⟩;rw[List.any_eq_true];exact ⟨l[i],dz u,h⟩)
  (λd ae=>by
   have a7: ¬((l.length:Int)<(l.length:Int)):=by omega
   rw[eM]at ae;refine ⟨.inr (),.inr ⟨rfl,ae⟩,?_⟩;unfold Ek;simp only[a7,bf,ax,not_false_eq_true]) () (by simp)
 have s:b4 Ek (l,k,(0:Int),())=some r:=s;unfold F1 aae;rw[s];rcases E with ⟨rfl,he⟩|⟨rfl,he⟩
 ·rw[he]
 ·rw[he]
theorem Ns (t:aj) (l:aq) (aT:t.length<10^12) (ab:l.length<10^12):vN (t,l,())=some (t.filter (λp=> !l.any (λd=>b9 d p.1)),()):=by
 obtain ⟨r,s,E⟩:=dM (b:=Db) (λi (o:aj)=>(t,l,(i:Int),o,())) t.length (λi o=>o=(t.take i).filter (λp=> !l.any (λd=>b9 d p.1)))
  (λr=>r=.inl (t.filter (λp=> !l.any (λd=>b9 d p.1)),())) (by omega)
  (λi u o W=>by
   left;have a7:((i:Int)<(t.length:Int)):=by omega
   have aX:((0:Int)<=(i:Int)):=by omega
   have bu:t.getD i (([]:M),(([]:M),((0:Int),())))=t[i]:=bW u;have w:=e1 i (by omega);have hlen:o.length<=i:=by rw[W];have s:=hE (λp:b5=> !l.any (λd=>b9 d p.1)) (t.take i);rw[eG]at s;omega
   have room:(o.length+([t[i]]:aj).length)*40<=bp:=by rw[ek];simp;omega
   unfold Db;simp only[a7,aX,am,ak,bM,bE,bu,w,acV l _ ab,room];rw[eY u,List.filter_append,<-W];cases h:l.any (λd=>b9 d (t[i]).1)
   ·exact ⟨_,rfl,by simp[h]⟩
   ·exact ⟨_,rfl,by simp[h]⟩)
  (λo W=>by
   have a7: ¬((t.length:Int)<(t.length:Int)):=by omega
   rw[eM]at W;subst W;refine ⟨_,rfl,?_⟩;unfold Db;simp only[a7,bf,ax,not_false_eq_true]) [] (by simp)
 subst E;have s:b4 Db (t,l,(0:Int),([]:aj),())=_:=s;unfold vN V5;simp only[s]
theorem aqR (t:aj) (l:aq) (aT:t.length<10^12) (ab:l.length<10^12):JY (t,l,())=some (t.filter (λp=>l.any (λd=>b9 d p.1)),()):=by
 obtain ⟨r,s,E⟩:=dM (b:=Df) (λi (o:aj)=>(t,l,(i:Int),o,())) t.length (λi o=>o=(t.take i).filter (λp=>l.any (λd=>b9 d p.1)))
  (λr=>r=.inl (t.filter (λp=>l.any (λd=>b9 d p.1)),())) (by omega)
  (λi u o W=>by
   left;have a7:((i:Int)<(t.length:Int)):=by omega
   have aX:((0:Int)<=(i:Int)):=by omega
   have bu:t.getD i (([]:M),(([]:M),((0:Int),())))=t[i]:=bW u;have w:=e1 i (by omega);have hlen:o.length<=i:=by rw[W];have s:=hE (λp:b5=>l.any (λd=>b9 d p.1)) (t.take i);rw[eG]at s;omega
   have room:(o.length+([t[i]]:aj).length)*40<=bp:=by rw[ek];simp;omega
   unfold Df;simp only[a7,aX,am,ak,bM,bE,bu,w,acV l _ ab,room];rw[eY u,List.filter_append,<-W];cases h:l.any (λd=>b9 d (t[i]).1)
   ·exact ⟨_,rfl,by simp[h]⟩
   ·exact ⟨_,rfl,by simp[h]⟩)
  (λo W=>by
   have a7: ¬((t.length:Int)<(t.length:Int)):=by omega
   rw[eM]at W;subst W;refine ⟨_,rfl,?_⟩;unfold Df;simp only[a7,bf,ax,not_false_eq_true]) [] (by simp)
 subst E;have s:b4 Df (t,l,(0:Int),([]:aj),())=_:=s;unfold JY W5;simp only[s]
structure qL (p:M):Prop where
 pre:mr (p,())=some (dF p,())
 pre2:nP (p,())=some (dF p,())
 sh:p=[]\/p=p.dropLast++[47]
theorem FU {p:M} (h:p∈six):qL p:=⟨(kO p h).1,(kO p h).2.1,(kO p h).2.2⟩
theorem j9 {k p:M}:bV k p=true↔ ∃r,k=p++r:=by
 unfold bV;rw[bN,dJ,dJ];constructor
 ·rintro ⟨_,h⟩;exact ⟨k.drop p.length,by conv=>lhs;rw[<-List.take_append_drop p.length k,h]⟩
 ·rintro ⟨r,rfl⟩;simp
theorem AQ (p r:M):bV (p++r) p=true:=j9.2 ⟨r,rfl⟩
theorem aiV {k p q:M} (s:bV k p=true) (E:bV k q=true):bV p q=true\/bV q p=true:=by
 obtain ⟨r,rfl⟩:=j9.1 s;obtain ⟨d,e⟩:=j9.1 E;rcases List.append_eq_append_iff.1 e with ⟨a,O,aC⟩|⟨a,O,aC⟩
 ·right;exact j9.2 ⟨a,O⟩
 ·left;exact j9.2 ⟨a,O⟩
theorem nI (p a b:M):Op.bytesLess (p++a) (p++b)=Op.bytesLess a b:=by
 induction p with
 |nil=>rfl
 |cons x p aQ=>simp[Op.bytesLess,aQ]
def fD (f t k:M):M:=t++k.drop f.length
theorem lk (f t r:M):fD f t (f++r)=t++r:=by simp[fD]
theorem arG (k f t:M) (h:t.length+k.length<10^12):Nt (k,f,t,())=some (bif bV k f then (fD f t k,true,()) else ([],false,())):=by
 unfold Nt;simp only[FF];cases J:bV k f
 ·simp
 ·have hle:f.length<=k.length:=by obtain ⟨r,rfl⟩:=j9.1 J;simp
  have a7:((0:Int)<=(f.length:Int)):=by omega
  have aX:((f.length:Int)<=(k.length:Int)):=by omega
  have c3:t.length+(List.drop f.length k).length<=bp:=by rw[ek,List.length_drop];omega
  simp only[cP,ax,ak,a7,aX,Int.le_refl,am,bM,bE,eM,c3];rfl
theorem arv (k p:M):vy (k,p,())=some (bV k p,()):=by have:=FF k p;unfold tf at this;unfold vy bv;simp only[this]
theorem FL (k f t:M) (h:t.length+k.length<10^12):tF (k,f,t,())=some (bif bV k f then (fD f t k,true,()) else ([],false,())):=by
 have aP:bv (k,f,())=some (bV k f,()):=by have:=FF k f;unfold tf at this;unfold bv;exact this
 unfold tF I3 R7;simp only[aP];cases J:bV k f
 ·simp
 ·have hle:f.length<=k.length:=by obtain ⟨r,rfl⟩:=j9.1 J;simp
  have a7:((0:Int)<=(f.length:Int)):=by omega
  have aX:((f.length:Int)<=(k.length:Int)):=by omega
  have c3:t.length+(List.drop f.length k).length<=bp:=by rw[ek,List.length_drop];omega
  simp only[cP,ax,ak,a7,aX,Int.le_refl,am,bM,bE,eM,c3];rfl
def kz (acc:aj) (p:b5):aj:=hV bK p (ir bK p.1 acc)
def ka (base l:aj):aj:=l.foldl kz base
def hS (f t:M) (p:b5):b5:=(fD f t p.1,p.2.1,p.2.2.1,())
theorem aqa (base l:aj) (p:b5):ka base (l++[p])=kz (ka base l) p:=by simp[ka]
theorem ab7 (acc:aj) (p:b5):(kz acc p).length<=acc.length+1:=by unfold kz;have:=ajo (key:=bK) (k:=p.1) acc;rw[Ga];omega
theorem Fl: ∀(l base:aj),(ka base l).length<=base.length+l.length
 |[],base=>by simp[ka]
 |p::l,base=>by have s:=Fl l (kz base p);have E:=ab7 base p;show (ka (kz base p) l).length<=_;simp;omega
theorem Ae: ∀(l base:aj),cH bK base->cH bK (ka base l)
 |[],base,h=>h
 |p::l,base,h=>Ae l (kz base p) (cH.ins h.wo (acw _ _))
def Io (m:bB):Prop:=m.1=4\/m.1=5
def jD (m:bB) (t:aj):aj:=
 bif decide (m.1=4) then (t.filter λx=> !bV x.1 m.2.2.2.2.2.1).filter λx=> !bV x.1 m.2.2.2.2.1 else t.filter λx=> !bV x.1 m.2.2.2.2.2.1
def hC (m:bB) (t:aj):aj:=t.filter λx=>bV x.1 m.2.2.2.2.1
theorem UI (t:aj) (p:M) (aP:qL p) (ab:t.length<10^12):vN (t,[dF p],())=some (t.filter (λx=> !bV x.1 p),()):=by rw[Ns t _ ab (by simp)];congr 2;apply List.filter_congr;intro x ai;simp only[List.any_cons,List.any_nil,Bool.or_false,w3 aP.sh]
theorem ajD (t:aj) (p:M) (aP:qL p) (ab:t.length<10^12):JY (t,[dF p],())=some (t.filter (λx=>bV x.1 p),()):=by rw[aqR t _ ab (by simp)];congr 2;apply List.filter_congr;intro x ai;simp only[List.any_cons,List.any_nil,Bool.or_false,w3 aP.sh]
end D
