import Derived.Test.YtmmmpanpbphkdaaGreatDoorXC
import Derived.Test.YtmmmpanpbphkdaaGreatDoorD
import Derived.KernelRfl
import Derived.Sort.AssemblyPlain
set_option linter.unusedVariables false
set_option linter.unusedSimpArgs false
set_option maxRecDepth 100000
open Go Go.X
open Go.IntKind (i64)
namespace D
theorem am {p:Prop} [Decidable p] (h:p):decide p=true:=decide_eq_true h
theorem bj {p:Prop} [Decidable p] (h: ¬p):decide p=false:=decide_eq_false h
theorem cR {x:Int} (h: -9223372036854775808<=x/\x<9223372036854775808):i64.wrap x=x:=afL h.1 h.2
theorem fm (i:Nat):(decide ((0:Int)<=(i:Int)))=true:=am (by omega)
theorem fK (i:Nat) (h:i<4611686018427387904):i64.wrap ((i:Int)+1)=((i+1:Nat):Int):=by rw[cR (by omega)];omega
theorem gw {α:Type} {l:List α} {i:Nat} (h:i<l.length):(decide (((i:Nat):Int)<((List.length l):Int)))=true:=am (by omega)
theorem hy {α:Type} (l:List α):(decide (((l.length:Nat):Int)<((List.length l):Int)))=false:=bj (by omega)
theorem cn {α:Type} {l:List α} {i:Nat} {d:α} (h:i<l.length):List.getD l i d=l[i]:=by
 simp[List.getD,h]
theorem dV:bm=140737488355328:=rfl
def m5 {α σ ρ:Type} (step:σ->α->σ⊕ρ) (fin:σ->ρ):List α->σ->ρ
 |[],s=>fin s
 |a::l,s=>match step s a with
  | .inl t=>m5 step fin l t
  | .inr r=>r
theorem jM:jV=1000000000000000000000000:=rfl
theorem aoh {S ρ σ α:Type} {b:S->Option (S⊕ρ)} (mk:Nat->σ->S) (step:σ->α->σ⊕ρ) (fin:σ->ρ) (xs:List α) (Inv:Nat->σ->Prop) (hlen:xs.length<1000000000000000000)
  (aa: ∀i (ab:i<xs.length) s,Inv i s->(∃t,step s xs[i]=.inl t/\Inv (i+1) t/\b (mk i s)=some (.inl (mk (i+1) t)))\/(∃r,step s xs[i]=.inr r/\b (mk i s)=some (.inr r)))
  (ad: ∀s,Inv xs.length s->b (mk xs.length s)=some (.inr (fin s))) (s:σ) (au:Inv 0 s):bM b (mk 0 s)=some (m5 step fin xs s):=by
 have key: ∀(k i:Nat) (s:σ),i+k=xs.length->Inv i s->dR b (k+1) (mk i s)=some (m5 step fin (xs.drop i) s):=by
  intro k
  induction k with
  |zero=>
   intro i s ab aX;have ab:i=xs.length:=by omega
   subst ab;simp only[dR,ad s aX,List.drop_length,m5]
  |succ k aO=>
   intro i s ab aX;have eY:i<xs.length:=by omega
   rw[List.drop_eq_getElem_cons eY,m5];rcases aa i eY s aX with ⟨t,ai,aq,bb⟩|⟨r,ai,aq⟩
   ·rw[ai];simp only[dR,bb];exact aO (i+1) t (by omega) aq
   ·rw[ai];simp only[dR,aq]
 exact lp (n:=xs.length+1) (by rw[jM];omega) (key xs.length 0 s (by omega) au)
theorem bi {S ρ σ:Type} {b:S->Option (S⊕ρ)} (mk:Nat->σ->S) (N:Nat) (Inv:Nat->σ->Prop) (Q:ρ->Prop) (hlen:N<1000000000000000000)
  (aa: ∀i,i<N-> ∀s,Inv i s->(∃t,Inv (i+1) t/\b (mk i s)=some (.inl (mk (i+1) t)))\/(∃r,Q r/\b (mk i s)=some (.inr r)))
  (ad: ∀s,Inv N s-> ∃r,Q r/\b (mk N s)=some (.inr r)) (s:σ) (au:Inv 0 s): ∃r,bM b (mk 0 s)=some r/\Q r:=by
 have key: ∀(k i:Nat) (s:σ),i+k=N->Inv i s-> ∃r,dR b (k+1) (mk i s)=some r/\Q r:=by
  intro k
  induction k with
  |zero=>
   intro i s ab aX;have ab:i=N:=by omega
   subst ab;obtain ⟨r,q,e⟩:=ad s aX;exact ⟨r,by simp only[dR,e],q⟩
  |succ k aO=>
   intro i s ab aX;rcases aa i (by omega) s aX with ⟨t,aq,bb⟩|⟨r,ai,aq⟩
   ·obtain ⟨r,e,q⟩:=aO (i+1) t (by omega) aq;exact ⟨r,by simp only[dR,bb];exact e,q⟩
   ·exact ⟨r,by simp only[dR,aq],ai⟩
 obtain ⟨r,e,q⟩:=key N 0 s (by omega) au;exact ⟨r,lp (n:=N+1) (by rw[jM];omega) e,q⟩
theorem eZ {α:Type} {l:List α} {i:Nat} (h:i<l.length):l.take (i+1)=l.take i++[l[i]]:=by
 rw[List.take_add_one,List.getElem?_eq_getElem h];rfl
theorem gJ: ∀a,Op.bytesLess a a=false
 |[]=>rfl
 |a::x=>by simp[Op.bytesLess,gJ x]
theorem e5: ∀{a b c},Op.bytesLess a b=true->Op.bytesLess b c=true->Op.bytesLess a c=true
 |[],[],_,h,_=>by simp[Op.bytesLess]at h
 |_::_,[],_,h,_=>by simp[Op.bytesLess]at h
 |_,_::_,[],_,h=>by simp[Op.bytesLess]at h
 |[],_::_,_::_,_,_=>rfl
 |a::x,b::y,c::z,h,g=>by
  simp only[Op.bytesLess,Bool.or_eq_true,db,bB,beq_iff_eq]at h g ⊢;rcases h with h |⟨rfl,h⟩
  ·rcases g with g |⟨rfl,g⟩
   ·exact .inl (UInt8.lt_trans h g)
   ·exact .inl h
  ·rcases g with g |⟨rfl,g⟩
   ·exact .inl g
   ·exact .inr ⟨rfl,e5 h g⟩
theorem hg: ∀a b,Op.bytesLess a b=true\/a=b\/Op.bytesLess b a=true
 |[],[]=>.inr (.inl rfl)
 |[],_::_=>.inl rfl
 |_::_,[]=>.inr (.inr rfl)
 |a::x,b::y=>by
  simp only[Op.bytesLess,Bool.or_eq_true,db,bB,beq_iff_eq,List.cons.injEq];rcases UInt8.lt_or_lt_of_ne (a:=a) (b:=b)|>fun h=>(Decidable.em (a=b)).elim (fun e=>Or.inl e) (fun e=>Or.inr (h e)) with h |h |h
  ·subst h;rcases hg x y with h |h |h
   ·exact .inl (.inr ⟨rfl,h⟩)
   ·exact .inr (.inl ⟨rfl,h⟩)
   ·exact .inr (.inr (.inr ⟨rfl,h⟩))
  ·exact .inl (.inl h)
  ·exact .inr (.inr (.inl h))
theorem hG {a b} (h:Op.bytesLess a b=true):Op.bytesLess b a=false:=by
 cases ag:Op.bytesLess b a
 ·rfl
 ·have:=e5 h ag;rw[gJ]at this;cases this
theorem jl {a b} (h:Op.bytesLess a b=true):a≠b:=by
 rintro rfl;rw[gJ]at h;cases h
theorem xK {S ρ:Type} {b:S->Option (S⊕ρ)} (μ:S->Nat) (Inv:S->Prop) (Q:ρ->Prop)
  (h: ∀s,Inv s->(∃t,b s=some (.inl t)/\Inv t/\μ t<μ s)\/(∃r,b s=some (.inr r)/\Q r)) (s:S) (au:Inv s) (hm:μ s<100000000000000000000): ∃r,bM b s=some r/\Q r:=by
 have key: ∀n s,μ s<n->Inv s-> ∃r,dR b n s=some r/\Q r:=by
  intro n
  induction n with
  |zero=>intro s h;omega
  |succ n aO=>
   intro s aQ ab;rcases h s ab with ⟨t,e,it,lt⟩|⟨r,e,q⟩
   ·obtain ⟨r,aq,q⟩:=aO t (by omega) it;exact ⟨r,by simp only[dR,e,aq],q⟩
   ·exact ⟨r,by simp only[dR,e],q⟩
 obtain ⟨r,e,q⟩:=key (μ s+1) s (by omega) au;exact ⟨r,lp (n:=μ s+1) (by rw[jM];omega) e,q⟩
section
variable {α:Type} (key:α->af)
def cg (l:List α):Prop:=l.Pairwise fun a b=>Op.bytesLess (key a) (key b)=true
def cD (k:af):List α->Nat
 |[]=>0
 |a::l=>if Op.bytesLess (key a) k=true then cD k l+1 else 0
def gr (x:α):List α->List α
 |[]=>[x]
 |a::l=>if Op.bytesLess (key x) (key a)=true then x::a::l else a::gr x l
def gS (k:af) (l:List α):List α:=l.filter fun a=> !decide (key a=k)
variable {key}
theorem cg.tail {a:α} {l:List α} (h:cg key (a::l)):cg key l:=(List.pairwise_cons.1 h).2
theorem cg.head {a:α} {l:List α} (h:cg key (a::l)): ∀b∈l,Op.bytesLess (key a) (key b)=true:=(List.pairwise_cons.1 h).1
theorem mU (k:af): ∀l:List α,cD key k l<=l.length
 |[]=>Nat.le_refl _
 |a::l=>by
  unfold cD;split
  ·have:=mU k l;simp;omega
  ·simp
theorem Lt (k:af): ∀(l:List α) (i:Nat) (h:i<l.length),i<cD key k l->Op.bytesLess (key l[i]) k=true
 |[],i,h,_=>by simp at h
 |a::l,i,h,ab=>by
  unfold cD at ab;split at ab
  ·rename_i aR;cases i with
   |zero=>exact aR
   |succ i=>exact Lt k l i (by simpa using h) (by omega)
  ·omega
theorem Ls (k:af): ∀(l:List α),cg key l-> ∀(i:Nat) (h:i<l.length),cD key k l<=i->Op.bytesLess (key l[i]) k=false
 |[],_,i,h,_=>by simp at h
 |a::l,au,i,h,ab=>by
  unfold cD at ab;split at ab
  ·rename_i aR;cases i with
   |zero=>omega
   |succ i=>exact Ls k l au.tail i (by simpa using h) (by omega)
  ·rename_i aR;have aR:Op.bytesLess (key a) k=false:=by simpa using aR
   cases i with
   |zero=>exact aR
   |succ i=>
    have ao:i<l.length:=by simpa using h
    have aa:=au.head l[i] (List.getElem_mem ao);cases ag:Op.bytesLess (key (a::l)[i+1]) k
    ·rfl
    ·have:=e5 aa ag;rw[aR]at this;cases this
theorem JT (k:af) (l:List α) (au:cg key l) (i:Nat) (ab:i<=l.length) (aa: ∀(m:Nat) (h:m<l.length),m<i->Op.bytesLess (key l[m]) k=true) (ad: ∀(m:Nat) (h:m<l.length),i<=m->Op.bytesLess (key l[m]) k=false):i=cD key k l:=by
 have ao:=mU (key:=key) k l;rcases Nat.lt_trichotomy i (cD key k l) with h |h |h
 ·have a:=ad i (by omega) (Nat.le_refl _);have b:=Lt (key:=key) k l i (by omega) h;rw[a]at b;cases b
 ·exact h
 ·have a:=aa (cD key k l) (by omega) h;have b:=Ls k l au (cD key k l) (by omega) (Nat.le_refl _);rw[a]at b;cases b
def eB (k:af) (l:List α):Bool:=l.any fun a=>decide (key a=k)
theorem DG (k:af): ∀(l:List α),cg key l-> ∀(h:cD key k l<l.length),eB (key:=key) k l=decide (key l[cD key k l]=k)
 |[],_,h=>by simp at h
 |a::l,au,h=>by
  unfold cD at h ⊢;split
  ·rename_i aR;rw[if_pos aR]at h;have cf:key a≠k:=jl aR;have:=DG k l au.tail (by simpa using h);simp only[eB,List.any_cons,decide_eq_false cf,Bool.false_or];exact this
  ·rename_i aR;simp only[eB,List.any_cons,List.getElem_cons_zero];by_cases av:key a=k
   ·simp[av]
   ·have:(l.any fun a=>decide (key a=k))=false:=by
     rw[List.any_eq_false];intro b ag;have aa:=au.head b ag;simp only[db];intro aqc;rw[aqc]at aa;exact aR aa
    rw[this];simp[av]
theorem x1 (k:af): ∀(l:List α),cD key k l=l.length->eB (key:=key) k l=false
 |[],_=>rfl
 |a::l,h=>by
  unfold cD at h;split at h
  ·rename_i aR;have cf:key a≠k:=jl aR;have:=x1 k l (by simpa using h);simp only[eB,List.any_cons,decide_eq_false cf,Bool.false_or];exact this
  ·simp at h
theorem Dy (k:af) (l:List α) (h:eB (key:=key) k l=false):gS key k l=l:=by
 unfold gS;rw[List.filter_eq_self];intro a aR;unfold eB at h;rw[List.any_eq_false]at h;simpa using h a aR
theorem Zz {x:α}: ∀(l:List α),cg key l->eB (key:=key) (key x) l=false->l.take (cD key (key x) l)++[x]++l.drop (cD key (key x) l)=gr key x l
 |[],_,_=>rfl
 |a::l,au,aQ=>by
  unfold cD gr;simp only[eB,List.any_cons,Bool.or_eq_false_iff,decide_eq_false_iff_not]at aQ;have cf:key a≠key x:=aQ.1;rcases hg (key a) (key x) with h |h |h
  ·rw[if_pos h,if_neg (by rw[hG h];simp)];have:=Zz l au.tail aQ.2;simp only[List.take_succ_cons,List.drop_succ_cons,List.cons_append];rw[this]
  ·exact absurd h cf
  ·rw[if_pos h,if_neg (by rw[hG h];simp)];simp
theorem agc {k:af} {l:List α} (h: ∀b∈l,Op.bytesLess k (key b)=true):gS key k l=l:=by
 unfold gS;rw[List.filter_eq_self];intro a aR;have:=jl (h a aR);simp only[Bool.not_eq_true',decide_eq_false_iff_not];exact fun e=>this e.symm
theorem afv {x:α} {l:List α} (h: ∀b∈l,Op.bytesLess (key x) (key b)=true):gr key x l=x::l:=by
 cases l with
 |nil=>rfl
 |cons a l=>unfold gr;rw[if_pos (h a (by simp))]
theorem ZP {x:α}: ∀(l:List α),cg key l->eB (key:=key) (key x) l=true->l.set (cD key (key x) l) x=gr key x (gS key (key x) l)
 |[],_,aQ=>by simp[eB]at aQ
 |a::l,au,aQ=>by
  unfold cD;rcases hg (key a) (key x) with h |h |h
  ·have cf:key a≠key x:=jl h;simp only[eB,List.any_cons,decide_eq_false cf,Bool.false_or]at aQ;have:=ZP l au.tail aQ;rw[if_pos h,List.set_cons_succ,this];have e:gS key (key x) (a::l)=a::gS key (key x) l:=by simp[gS,cf]
   rw[e]
   conv=>rhs;unfold gr
   rw[if_neg (by rw[hG h];simp)]
  ·have a8: ∀b∈l,Op.bytesLess (key x) (key b)=true:=fun b ag=>by rw[<-h];exact au.head b ag
   rw[if_neg (by rw[h,gJ];simp),List.set_cons_zero];have e:gS key (key x) (a::l)=gS key (key x) l:=by simp[gS,h]
   rw[e,agc a8,afv a8]
  ·exfalso;have cf:key a≠key x:=fun e=>jl h e.symm
   simp only[eB,List.any_cons,decide_eq_false cf,Bool.false_or,List.any_eq_true,db]at aQ;obtain ⟨b,ag,e⟩:=aQ;have aa:=e5 h (au.head b ag);rw[e,gJ]at aa;cases aa
theorem x2 {x b:α}: ∀{l:List α},b∈gr key x l↔b=x\/b∈l
 |[]=>by simp[gr]
 |a::l=>by
  unfold gr;split
  ·simp
  ·simp only[List.mem_cons,x2 (l:=l)];constructor
   ·rintro (h |h |h)
    ·exact .inr (.inl h)
    ·exact .inl h
    ·exact .inr (.inr h)
   ·rintro (h |h |h)
    ·exact .inr (.inl h)
    ·exact .inl h
    ·exact .inr (.inr h)
theorem Dr {x:α}: ∀(l:List α),(gr key x l).length=l.length+1
 |[]=>rfl
 |a::l=>by
  unfold gr;split
  ·rfl
  ·simp[Dr l]
theorem cg.ins {x:α}: ∀{l:List α},cg key l->eB (key:=key) (key x) l=false->cg key (gr key x l)
 |[],_,_=>by simp[gr,cg]
 |a::l,au,aQ=>by
  simp only[eB,List.any_cons,Bool.or_eq_false_iff,decide_eq_false_iff_not]at aQ;unfold gr;split
  ·rename_i h;refine List.pairwise_cons.2 ⟨fun b ag=> ?_,au⟩;rcases List.mem_cons.1 ag with rfl |ag
   ·exact h
   ·exact e5 h (au.head b ag)
  ·rename_i h;have ad:Op.bytesLess (key a) (key x)=true:=by
    rcases hg (key a) (key x) with al |al |al
    ·exact al
    ·exact absurd al aQ.1
    ·exact absurd al h
   refine List.pairwise_cons.2 ⟨fun b ag=> ?_,cg.ins au.tail aQ.2⟩;rcases x2.1 ag with rfl |ag
   ·exact ad
   ·exact au.head b ag
theorem cg.wo {k:af} {l:List α} (h:cg key l):cg key (gS key k l):=List.Pairwise.filter _ h
theorem Zb (k:af) (l:List α):eB (key:=key) k (gS key k l)=false:=by
 unfold eB gS;rw[List.any_eq_false];intro a aR;have:=(List.mem_filter.1 aR).2;simpa using this
theorem agd {k:af} (l:List α):(gS key k l).length<=l.length:=List.length_filter_le _ _
end
open Go
theorem apl:IV ()=some (true,()):=by kernel_rfl
open Go
theorem amL {p:List cX} {i:Nat} (h:i<p.length):xa ((p,()),(i:Int),())=some (p[i].1,()):=by
 have aa:(decide (((i:Nat):Int)>=0))=true:=am (by omega);have ad:(decide (((i:Nat):Int)<(List.length p:Int)))=true:=am (by omega);have al:=fm i;simp only[xa,aa,ad,al,aA,b7,bQ,cn h]
theorem am9 {p:List cX} {i:Nat} (h:i<p.length) (hu:p[i].1=true) (ao:p[i].2.1=false):j9 ((p,()),(i:Int),())=some (p[i].2.2.2.1,0,()):=by
 have ad:(decide (((i:Nat):Int)<(List.length p:Int)))=true:=am (by omega);have al:=fm i;simp only[j9,amL h,hu,ao,ad,al,aA,aL,dt,b7,bQ,cn h]
theorem J5 {p:List cX} {i:Nat} (h:i<p.length):wl ((p,()),(i:Int),())=some (p[i].1,()):=by
 have aa:(decide (((i:Nat):Int)>=0))=true:=am (by omega);have ad:(decide (((i:Nat):Int)<(List.length p:Int)))=true:=am (by omega);have al:=fm i;simp only[wl,aa,ad,al,aA,b7,bQ,cn h]
theorem amM {p:List cX} {i:Nat} (h:i<p.length):GO ((i:Int),p,())=some (p[i].1,p,()):=by
 have aa:(decide (((i:Nat):Int)>=0))=true:=am (by omega);have ad:(decide (((i:Nat):Int)<(List.length p:Int)))=true:=am (by omega);have al:=fm i;simp only[GO,aa,ad,al,aA,b7,bQ,cn h]
theorem anK {p:List cX} {i:Nat} (h:i<p.length) (hu:p[i].1=true) (ao:p[i].2.1=false):xc ((p,()),(i:Int),())=some (p[i].2.2.2.1,0,()):=by
 have ad:(decide (((i:Nat):Int)<(List.length p:Int)))=true:=am (by omega);have al:=fm i;simp only[xc,J5 h,hu,ao,ad,al,aA,aL,dt,b7,bQ,cn h]
def mk (ns:List bq) (r:Nat->Int):List cX:=ns.mapIdx fun i n=>(true,false,r i,n,())
theorem ly (ns:List bq) (r:Nat->Int):(mk ns r).length=ns.length:=by simp[mk]
theorem lx {ns:List bq} {r:Nat->Int} {i:Nat} (h:i<(mk ns r).length):(mk ns r)[i]=(true,false,r i,ns[i]'(by rw[<-ly ns r];exact h),()):=by simp[mk]
theorem Lh {ns:List bq} {r:Nat->Int} {i:Nat} (h:i<ns.length) (d:cX):List.getD (mk ns r) i d=(true,false,r i,ns[i],()):=by
 rw[cn (by rw[ly];exact h),lx]
theorem ZL {ns:List bq} {r:Nat->Int} {i:Nat} (h:i<ns.length) (v:Int):(mk ns r).set i (true,false,v,ns[i],())=mk ns (fun j=>if j=i then v else r j):=by
 apply List.ext_getElem
 ·simp[mk]
 ·intro j aa ad;rw[lx,List.getElem_set];split
  ·rename_i e;subst e;simp
  ·rename_i e;rw[lx];simp[Ne.symm e]
theorem xT {ns:List bq} {r fB:Nat->Int} (h: ∀i,i<ns.length->r i=fB i):mk ns r=mk ns fB:=by
 apply List.ext_getElem
 ·simp[mk]
 ·intro j aa ad;rw[lx,lx,h j (by rw[<-ly ns r];exact aa)]
theorem afA (ns:List bq) (n:bq) (r:Nat->Int):mk ns r++[(true,false,r ns.length,n,())]=mk (ns++[n]) r:=by
 simp[mk,List.mapIdx_append]
theorem al5 {ns:List bq} {r:Nat->Int} {i:Nat} (h:i<ns.length):j9 ((mk ns r,()),(i:Int),())=some (ns[i],0,()):=by
 have ca:i<(mk ns r).length:=by rw[ly];exact h
 rw[am9 ca (by rw[lx]) (by rw[lx]),lx]
theorem JX {ns:List bq} {r:Nat->Int} {i:Nat} (h:i<ns.length):xc ((mk ns r,()),(i:Int),())=some (ns[i],0,()):=by
 have ca:i<(mk ns r).length:=by rw[ly];exact h
 rw[anK ca (by rw[lx]) (by rw[lx]),lx]
theorem Ye {p:List cX} (h:p.length<=100000):Bl ((p,()),())=some (p,()):=by
 have aa:(decide ((List.length ([]:List (cX))+List.length p)*136<=bm))=true:=am (by rw[dV];simp;omega);simp only[Bl,aa,aA,List.nil_append]
def dM (ks:List Nat):List Int:=ks.map fun (k:Nat)=>(k:Int)
theorem iK (ks:List Nat):(dM ks).length=ks.length:=by simp[dM]
theorem tE {ks:List Nat} {i:Nat} (h:i<ks.length):List.getD (dM ks) i 0=((ks[i]:Nat):Int):=by
 rw[cn (by rw[iK];exact h)];simp[dM]
theorem ae4 {ns:List bq} {r:Nat->Int} {n:bq} {ks:List Nat} (av:n.2.2.1=dM ks) (az: ∀k∈ks,k<ns.length) (ao:ks.length<=1000):
  I7 (0,(mk ns r,()),n,[],0,0,())=some (.inr ((mk ns r,()),n,[],0,0,())):=by
 obtain ⟨z,aa,ad⟩:=bi (b:=Bi) (fun i (_:Unit)=>((i:Int),(mk ns r,()),n,[],0,0,())) ks.length (fun _ _=>True) (fun z=>z=.inr ((mk ns r,()),n,[],0,0,())) (by omega)
  (fun i ab _ _=>by
   left;refine ⟨(),trivial,?_⟩;have ai:(decide (((i:Nat):Int)<((List.length n.2.2.1):Int)))=true:=am (by rw[av,iK];omega);have aq:=fm i;have bb:=fK i (by omega);have hi':ks[i]<(mk ns r).length:=by rw[ly];exact az _ (List.getElem_mem ab)
   have iJ:List.getD n.2.2.1 i 0=((ks[i]:Nat):Int):=by rw[av,tE ab]
   simp only[Bi,ai,aq,aA,b7,bQ,iJ,J5 hi',lx,dt,aL,bb])
  (fun _ _=>by
   have ai:(decide (((ks.length:Nat):Int)<((List.length n.2.2.1):Int)))=false:=bj (by rw[av,iK];omega);exact ⟨_,rfl,by simp only[Bi,ai,aL]⟩) () trivial
 subst ad;exact aa
theorem ae5 {ns:List bq} {r:Nat->Int} {n:bq} (ao:ns.length<=1000):
  I8 (0,(mk ns r,()),n,[],0,0,())=some (.inl ((ns.length:Int),(mk ns r,()),n,[],0,0,())):=by
 obtain ⟨z,aa,ad⟩:=bi (b:=Bj) (fun i (_:Unit)=>((i:Int),(mk ns r,()),n,[],0,0,())) ns.length (fun _ _=>True) (fun z=>z=.inl ((ns.length:Int),(mk ns r,()),n,[],0,0,())) (by omega)
  (fun i ab _ _=>by
   left;refine ⟨(),trivial,?_⟩;have ai:(decide (((i:Nat):Int)<((List.length (mk ns r)):Int)))=true:=am (by rw[ly];omega);have aq:=fm i;have bb:=fK i (by omega);simp only[Bj,ai,aq,aA,b7,bQ,Lh ab,bb])
  (fun _ _=>by
   have ai:(decide (((ns.length:Nat):Int)<((List.length (mk ns r)):Int)))=false:=bj (by rw[ly];omega);exact ⟨_,rfl,by simp only[Bj,ai,aL]⟩) () trivial
 subst ad;exact aa
theorem ae6 {ns:List bq} {n:bq} {ks:List Nat} {c:Int} (av:n.2.2.1=dM ks) (az: ∀k∈ks,k<ns.length) (aQ:ks.Nodup) (ao:ks.length<=1000):
  I9 (c,0,n,[],0,0,mk ns (fun _=>1),())=some (.inl (c,[],0,0,mk ns (fun j=>if j∈ks then 2 else 1),())):=by
 obtain ⟨z,aa,ad⟩:=bi (b:=Bk) (fun i (l:List cX)=>(c,(i:Int),n,[],0,0,l,())) ks.length (fun i l=>l=mk ns (fun j=>if j∈ks.take i then 2 else 1)) (fun z=>z=.inl (c,[],0,0,mk ns (fun j=>if j∈ks then 2 else 1),())) (by omega)
  (fun i ab l ao=>by
   left;subst ao;refine ⟨_,rfl,?_⟩;have lh:ks[i]<ns.length:=az _ (List.getElem_mem ab);have ai:(decide (((i:Nat):Int)<((List.length n.2.2.1):Int)))=true:=am (by rw[av,iK];omega);have aq:=fm i;have bb:=fK i (by omega);have bx:(decide ((0:Int)<=((ks[i]:Nat):Int)))=true:=am (by omega);have c9: ∀r,(decide (((ks[i]:Nat):Int)<(List.length (mk ns r):Int)))=true:=fun r=>am (by rw[ly];omega)
   have pg:ks[i]∉ks.take i:=fun hm=>by
    have ad:=eZ ab;have dT:(ks.take (i+1)).Nodup:=aQ.sublist (List.take_sublist _ _);rw[ad,List.nodup_append]at dT;exact dT.2.2 _ hm _ (by simp) rfl
   have iJ:List.getD n.2.2.1 i 0=((ks[i]:Nat):Int):=by rw[av,tE ab]
   simp only[Bk,ai,aq,aA,b7,bQ,iJ,bx,c9,Lh lh,bb,if_neg pg];have cV:i64.wrap ((1:Int)+1)=2:=by rw[cR (by omega)];omega
   have k7:mk ns (fun j=>if j=ks[i] then 2 else if j∈ks.take i then 2 else 1)=mk ns (fun j=>if j∈ks.take (i+1) then 2 else 1):=xT fun j _=>by
    have hm:j∈ks.take (i+1)↔(j∈ks.take i\/j=ks[i]):=by rw[eZ ab,List.mem_append,List.mem_singleton]
    by_cases ay:j=ks[i]
    ·rw[if_pos ay,if_pos (hm.2 (.inr ay))]
    ·rw[if_neg ay];by_cases ad:j∈ks.take i
     ·rw[if_pos ad,if_pos (hm.2 (.inl ad))]
     ·rw[if_neg ad,if_neg (fun h=>(hm.1 h).elim ad ay)]
   rw[cV,ZL lh,k7])
  (fun l ao=>by
   subst ao;have ai:(decide (((ks.length:Nat):Int)<((List.length n.2.2.1):Int)))=false:=bj (by rw[av,iK];omega);exact ⟨_,rfl,by simp only[Bk,ai,aL,List.take_length]⟩) (mk ns (fun _=>1)) (xT fun j _=>by simp)
 subst ad;exact aa
theorem ZE {ns:List bq} {n:bq} {ks:List Nat} (av:n.2.2.1=dM ks) (az: ∀k∈ks,k<ns.length) (aQ:ks.Nodup) (ao:ks.length<=1000) (gN:ns.length<=900):
  rI ((mk ns (fun _=>1),()),n,())=some (((mk (ns++[n]) (fun j=>if j∈ks then 2 else 1),()),((ns.length:Int),(0,()))),()):=by
 have ai:(decide (((ns.length:Nat):Int)>=4096))=false:=bj (by omega);have hlen:(mk ns (fun _=>1)).length=ns.length:=ly _ _;have aq:(decide (((ns.length:Nat):Int)=((List.length (mk ns (fun _=>1))):Int)))=true:=am (by rw[hlen]);have bb: ∀d:cX,(decide ((List.length (mk ns (fun _=>1))+List.length ([d]:List (cX)))*136<=bm))=true:=fun d=>am (by rw[hlen,dV];simp;omega)
 have bx:(decide ((0:Int)<=((ns.length:Nat):Int)))=true:=am (by omega);have c9: ∀d:cX,(decide (((ns.length:Nat):Int)<(List.length (mk ns (fun _=>1)++[d]):Int)))=true:=fun d=>am (by simp[hlen];omega)
 have cV: ∀d:cX,List.set (mk ns (fun _=>1)++[d]) ns.length (true,false,1,n,())=mk (ns++[n]) (fun _=>1):=fun d=>by
  rw[<-afA,<-hlen,List.set_append_right _ _ (Nat.le_refl _)];simp
 have ad:=ae6 (ns:=ns++[n]) (n:=n) (ks:=ks) (c:=(ns.length:Int)) av (fun k av=>by have:=az k av;simp;omega) aQ ao;simp only[rI,ae4 av az ao,ae5 (show ns.length<=1000 by omega),ai,aL,Ye (show (mk ns (fun _=>1)).length<=100000 by omega),aq,bb,aA,I6,bx,c9,b7,bQ,cV,ad]
theorem aoY {ns:List bq} {r:Nat->Int} {k:Nat} (av:k<ns.length) (az:r k=2):
  Ik ([(k:Int)],[],mk ns r,())=some (.inl ([],mk ns (fun j=>if j=k then 1 else r j),())):=by
 obtain ⟨z,aa,ad⟩:=bi (b:=AX) (fun i (q:List Int×List cX)=>(q.1,[],q.2,())) 1 (fun i q=>(i=0/\q=([(k:Int)],mk ns r))\/(i=1/\q=([],mk ns (fun j=>if j=k then 1 else r j))))
  (fun z=>z=.inl ([],mk ns (fun j=>if j=k then 1 else r j),())) (by omega)
  (fun i ab q aN=>by
   left;obtain ⟨rfl,rfl⟩:=aN.resolve_right (by omega);refine ⟨_,.inr ⟨rfl,rfl⟩,?_⟩;have fD:k<(mk ns r).length:=by rw[ly];exact av
   have ai:=fm k;have aq: ∀fB,(decide ((k:Int)<(List.length (mk ns fB):Int)))=true:=fun fB=>am (by rw[ly];omega)
   have bb:i64.wrap ((2:Int)-1)=1:=by rw[cR (by omega)];omega
   have bx:List.drop (Int.toNat (1:Int)) (List.take (Int.toNat (List.length [(k:Int)]:Int)) [(k:Int)])=[]:=rfl;have c9:List.getD [(k:Int)] 0 0=(k:Int):=rfl;have cV:(decide ((((List.length [(k:Int)]):Int):Int)>(0:Int)))=true:=rfl;have iJ:(decide (((0:Int):Int)<(List.length [(k:Int)]:Int)))=true:=rfl;have k7:(decide (((1:Int):Int)<=(List.length [(k:Int)]:Int))&&decide (((List.length [(k:Int)]:Int):Int)<=(List.length [(k:Int)]:Int)))=true:=rfl;have o4:(decide ((1:Int)=(0:Int)))=false:=rfl;simp only[AX,cV,iJ,k7,aA,bx,c9,amM fD,lx,dt,aL,ai,aq,b7,bQ,Lh av,az,bb,ZL av,if_true,o4];rfl)
  (fun q aN=>by
   obtain ⟨-,rfl⟩:=aN.resolve_left (by omega);have cV:(decide ((((List.length ([]:List Int)):Int):Int)>(0:Int)))=false:=rfl;exact ⟨_,rfl,by simp only[AX,cV,aL]⟩) ([(k:Int)],mk ns r) (.inl ⟨rfl,rfl⟩)
 subst ad;exact aa
theorem aoZ {ns:List bq} {r:Nat->Int} {k:Nat} (av:k<ns.length) (az:r k=2) (ao:ns.length<=1000):
  w1 ((mk ns r,()),(k:Int),())=some ((mk ns (fun j=>if j=k then 1 else r j),()),0,()):=by
 have fD:k<(mk ns r).length:=by rw[ly];exact av
 simp only[w1,J5 fD,lx,dt,aL,Ye (show (mk ns r).length<=100000 by rw[ly];omega),aoY av az]
def bU (s:ah) (k:af):Bool:= !(Op.bytesLess k s.1)&&(decide (s.2.1=[])||Op.bytesLess k s.2.1)
theorem Zx (s:ah) (k:af):xO (s,k,())=some (bU s k,()):=by
 simp only[xO,bU];cases aa:Op.bytesLess k s.1
 ·cases ad:decide (s.2.1=[])
  ·simp[ad]
  ·simp[ad]
 ·simp
def inS (s:ah) (t:List ak):List ak:=t.filter fun p=>bU s p.1
theorem qd (s:ah) (t:List ak):(inS s t).length<=t.length:=List.length_filter_le _ _
theorem apg (t:List ak) (s:ah) (ao:t.length<=1000000000000):Cy (t,s,())=some (inS s t,()):=by
 obtain ⟨z,aa,ad⟩:=bi (b:=AF) (fun i (out:List ak)=>(t,(i:Int),s,out,())) t.length (fun i out=>out=inS s (t.take i)) (fun z=>z=.inl (inS s t,())) (by omega)
  (fun i ab out an=>by
   left;subst an;refine ⟨_,rfl,?_⟩;have ai:=gw (i:=i) (l:=t) (by omega);have aq:=fm i;have bb:=fK i (by omega);have bx: ∀p:ak,(decide ((List.length (inS s (t.take i))+List.length ([p]:List (ak)))*40<=bm))=true:=fun p=>am (by
    have:=qd s (t.take i);rw[dV];simp at this ⊢;omega)
   have c9:inS s (t.take (i+1))=inS s (t.take i)++(bif bU s t[i].1 then [t[i]] else []):=by
    rw[eZ ab];unfold inS;rw[List.filter_append];cases h:bU s t[i].1<;>simp[h]
   rw[c9];simp only[AF,ai,aq,aA,b7,bQ,cn ab,Zx];cases h:bU s t[i].1
   ·simp only[aL,bb,List.append_nil]
   ·simp only[aA,bb,bx])
  (fun out an=>by
   subst an;have ai:=hy t;exact ⟨_,rfl,by simp only[AF,ai,aL,List.take_length]⟩) [] rfl
 subst ad;have dc:HS (t,0,s,[],())=some (.inl (inS s t,())):=aa;simp only[Cy,dc]
def sj (p:ak) (t:List ak):List ak:=t.filter fun x=> !decide (x.1=p.1)
def ins (p:ak):List ak->List ak
 |[]=>[p]
 |x::t=>bif Op.bytesLess x.1 p.1 then x::ins p t else p::sj p (x::t)
abbrev Rb:=(Bool×ak×List ak×Unit)⊕Unit
def u4 (p:ak) (s:Bool×List ak) (x:ak):(Bool×List ak)⊕Rb:=
 let i:=s.1|| !(Op.bytesLess x.1 p.1)
 let o:=bif !s.1&& !(Op.bytesLess x.1 p.1) then s.2++[p] else s.2
 .inl (i,bif !decide (x.1=p.1) then o++[x] else o)
def u3 (p:ak) (s:Bool×List ak):Rb:=.inl (s.1,p,s.2,())
theorem XU (p:ak): ∀(t out:List ak),m5 (u4 p) (u3 p) t (true,out)=.inl (true,p,out++sj p t,())
 |[],out=>by simp[m5,sj,u3]
 |x::t,out=>by
  simp only[m5,u4,Bool.true_or,dt,Bool.false_and,aL];rw[XU p t];by_cases h:x.1=p.1<;>simp[sj,h]
theorem XF (p:ak): ∀(t out:List ak),∃b o,m5 (u4 p) (u3 p) t (false,out)=.inl (b,p,o,())/\(bif b then o else o++[p])=out++ins p t
 |[],out=>⟨false,out,rfl,rfl⟩
 |x::t,out=>by
  simp only[m5,u4,Bool.false_or,dr,Bool.true_and];cases h:Op.bytesLess x.1 p.1
  ·simp only[dr,aA];rw[XU];refine ⟨_,_,rfl,?_⟩;have e:ins p (x::t)=p::sj p (x::t):=by simp only[ins,h,aL]
   rw[e];by_cases ad:x.1=p.1<;>simp[sj,ad]
  ·have ad:x.1≠p.1:=jl h;simp only[dt,aL,ad,decide_false,dr,aA];obtain ⟨b,o,ai,aq⟩:=XF p t (out++[x]);refine ⟨b,o,ai,?_⟩;rw[aq];simp[ins,h]
theorem am5 (p:ak) (t:List ak):(sj p t).length<=t.length:=List.length_filter_le _ _
theorem Lc (p:ak): ∀t,(ins p t).length<=t.length+1
 |[]=>by simp[ins]
 |x::t=>by
  have aa:=Lc p t;have ad:=am5 p (x::t);cases h:Op.bytesLess x.1 p.1<;>simp[ins,h]at ad ⊢ <;>omega
theorem apf (t:List ak) (p:ak) (ao:t.length<1000000):C9 (t,p,())=some (ins p t,()):=by
 have Np:I2 (t,false,(0:Int),p,([]:List ak),())=some (m5 (u4 p) (u3 p) t (false,[])):=by
  have:=aoh (b:=Be) (fun I (s:Bool×List ak)=>(t,s.1,(I:Int),p,s.2,())) (u4 p) (u3 p) t (fun I s=>s.2.length<=I+(if s.1 then 1 else 0)) (by omega) (fun I h s au=>by
    obtain ⟨i,out⟩:=s;have an:out.length<=I+1:=by simp only at au;split at au<;>omega
    left;refine ⟨_,rfl,?_,?_⟩
    ·cases i<;>cases ag:Op.bytesLess t[I].1 p.1<;>by_cases av:t[I].1=p.1<;>simp[ag,av]at au ⊢ <;>omega
    ·simp-implicitDefEqProofs (disch:=omega) only[Be,Py,Pz,am,bj,cR,cn,aA,aL,b7,bQ,dV,List.length_cons,List.length_nil,List.length_append,Int.natCast_add,Int.cast_ofNat_Int];cases i<;>cases ag:Op.bytesLess t[I].1 p.1<;>by_cases av:t[I].1=p.1<;>simp-implicitDefEqProofs (disch:=omega) [ag,av,am]) (fun s au=>by
    unfold Be;simp-implicitDefEqProofs (disch:=omega) only[am,bj,aA,aL,u3]) (false,[]) (by simp)
  exact this
 obtain ⟨b,o,ai,aq⟩:=XF p t [];unfold C9;simp only[Np,ai];simp only[List.nil_append]at aq;have hlen:=Lc p t;cases b
 ·simp only[aL]at aq;have:o.length+1<=t.length+1:=by rw[<-aq]at hlen;simpa using hlen
  simp-implicitDefEqProofs (disch:=omega) only[dr,aA,am,dV,List.length_cons,List.length_nil,aq]
 ·simp only[aA]at aq;simp only[dt,aL,aq]
def qg (n:Int):af:=((pM (n,())).map (·.1)).getD []
def Yn (n:Nat):Bool:=match pM ((n:Int),()) with
 |some (k,_)=>decide (k.length<=11)&&decide (1<=k.length)
 |none=>false
theorem ans: ∀n:Fin 256,Yn n.val=true:=by decide+kernel
theorem Xd (n:Int) (bX:0<=n) (aa:n<256):pM (n,())=some (qg n,())/\(qg n).length<=11/\1<=(qg n).length:=by
 obtain ⟨m,rfl⟩:=Int.eq_ofNat_of_zero_le bX;have:=ans ⟨m,by omega⟩;unfold Yn at this;unfold qg;simp only at this;cases h:pM ((m:Int),()) with
 |none=>simp[h]at this
 |some x=>
  obtain ⟨k,u⟩:=x;simp[h]at this;simp;omega
def af1 (n:Int):af:=List.getD [[],[118],[119,120],[120,121,122]] (n%4).toNat []
def nC (x:fa):ak:=(qg x.1,af1 x.2.1,x.2.2.1%4,())
def tB (x:fa):Prop:=(0<=x.1/\x.1<256)/\(0<=x.2.1/\x.2.1<256)/\(0<=x.2.2.1/\x.2.2.1<256)
theorem anD (x:fa) (h:tB x):CM (x,())=some (nC x,()):=by
 obtain ⟨a,b,c,u⟩:=x;obtain ⟨aa,ad,al⟩:=h;simp only at aa ad al;obtain ⟨a1,k2,b5⟩:=Xd a aa.1 aa.2;have ai:Int.tmod b 4=b%4:=Int.tmod_eq_emod_of_nonneg ad.1;have aq:Int.tmod c 4=c%4:=Int.tmod_eq_emod_of_nonneg al.1;unfold CM;simp-implicitDefEqProofs (disch:=omega) only[a1,ai,aq,cR,am,b7,aA,List.length_cons,List.length_nil];rfl
def mn (l:List fa):List ak:=l.foldl (fun t x=>ins (nC x) t) []
theorem Kx (l:List fa):(mn l).length<=l.length:=by
 have key: ∀(l:List fa) (t:List ak),(l.foldl (fun t x=>ins (nC x) t) t).length<=t.length+l.length:=by
  intro l
  induction l with
  |nil=>intro t;simp
  |cons x l aO=>
   intro t;have aa:=aO (ins (nC x) t);have ad:=Lc (nC x) t;simp only[List.foldl_cons,List.length_cons];omega
 have:=key l [];simp only[List.length_nil,Nat.zero_add]at this;exact this
theorem anv (l:List fa) (h: ∀x∈l,tB x) (ao:l.length<1000000000000000000):xG (l,())=some (mn (l.take 40),()):=by
 have Np:GL (l,(0:Int),([]:List ak),())=some (.inl (mn (l.take 40),())):=by
  obtain ⟨r,aa,ad⟩:=bi (b:=wF) (fun I (t:List ak)=>(l,(I:Int),t,())) (min l.length 40) (fun I t=>t=mn (l.take I)) (fun r=>r=.inl (mn (l.take 40),())) (by omega) (fun I dp t aU=>by
    left;have apT:I<l.length:=by omega
    refine ⟨ins (nC l[I]) t,?_,?_⟩
    ·show _=mn _;rw[List.take_add_one,List.getElem?_eq_getElem apT,aU];simp only[mn,Option.toList_some,List.foldl_append,List.foldl_cons,List.foldl_nil]
    ·have hlen:t.length<=40:=by
      rw[aU];have:=Kx (l.take I);simp only[List.length_take]at this;omega
     have aP:=anD l[I] (h _ (List.getElem_mem _));have aN:=apf t (nC l[I]) (by omega);simp-implicitDefEqProofs (disch:=omega) only[wF,Ap,am,bj,cR,cn,aA,aL,b7,bQ,aP,aN,Int.natCast_add,Int.cast_ofNat_Int]) (fun t aU=>by
    refine ⟨.inl (t,()),?_,?_⟩
    ·simp only[Sum.inl.injEq,ct,and_true];rw[aU];congr 1;rcases Nat.le_total l.length 40 with h |h
     ·rw[Nat.min_eq_left h,List.take_of_length_le h,List.take_length]
     ·rw[Nat.min_eq_right h]
    ·rcases Nat.lt_or_ge (min l.length 40) l.length with h |h
     ·simp-implicitDefEqProofs (disch:=omega) only[wF,Ap,am,bj,aA,aL]
     ·simp-implicitDefEqProofs (disch:=omega) only[wF,Ap,am,bj,aA,aL]) [] (by simp[mn])
  have al:GL (l,(0:Int),[],())=some r:=aa;rw[al,ad]
 unfold xG;simp only[Np]
def oA (k:af):Prop:=(tt (k,())).isSome=true
structure Hd (m:a6):Prop where
 kind:1<=m.1/\m.1<=6
 key:m.1=1\/m.1=2->oA m.2.1
 alike:m.1=4\/m.1=5->(AM (m.2.2.2.2.1,m.2.2.2.2.2.1,())).isSome=true
theorem amv {p:ak} (h:oA p.1): ∃c,G6 (p,())=some c:=by
 obtain ⟨r,az⟩:=Option.isSome_iff_exists.1 h;simp only[G6,az];cases (!decide ((r.2.1:Int)=(0:Int)))
 ·cases decide ((r.1.2.1:Int)=(1:Int))
  ·cases decide ((r.1.2.1:Int)=(2:Int))
   ·cases decide ((r.1.2.1:Int)=(3:Int))<;>exact ⟨_,rfl⟩
   ·exact ⟨_,rfl⟩
  ·exact ⟨_,rfl⟩
 ·exact ⟨_,rfl⟩
theorem aou (l:List ak) (h: ∀p∈l,oA p.1) (ao:l.length<=1000000): ∃c,Cx (l,())=some c:=by
 obtain ⟨z,aa,ad⟩:=bi (b:=AE) (fun i (q:Int×Int)=>(l,(i:Int),0,0,q.1,q.2,())) l.length (fun _ _=>True) (fun z=> ∃x,z=.inl x) (by omega)
  (fun i ab q _=>by
   left;obtain ⟨c,aB⟩:=amv (h l[i] (List.getElem_mem ab));have ai:=gw (i:=i) (l:=l) (by omega);have aq:=fm i;have bb:=fK i (by omega);exact ⟨(i64.wrap (q.1+c.1.1),i64.wrap (q.2+c.1.2.1)),trivial,by simp only[AE,ai,aq,aA,b7,bQ,cn ab,aB,bb]⟩)
  (fun q _=>by
   have ai:=hy l;exact ⟨_,⟨_,rfl⟩,by simp only[AE,ai,aL];rfl⟩) (0,0) trivial
 obtain ⟨x,rfl⟩:=ad;have dc:HR (l,0,0,0,0,0,())=some (.inl x):=aa;exact ⟨_,by simp only[Cx,dc];rfl⟩
theorem Yi {k:af} (h:oA k): ∃c,AW (k,())=some c:=by
 obtain ⟨r,az⟩:=Option.isSome_iff_exists.1 h;simp only[AW,az];cases decide ((r.2.1:Int)=(0:Int))<;>exact ⟨_,rfl⟩
theorem amu (s:dY) {m:a6} (h:Hd m): ∃c,G9 (s,m,())=some c:=by
 simp only[G9,wL,BE];by_cases aa:m.1=1
 ·obtain ⟨e,he⟩:=Yi (h.key (.inl aa));simp only[am aa,aA,he];cases e.1<;>exact ⟨_,rfl⟩
 ·by_cases ad:m.1=2
  ·obtain ⟨e,he⟩:=Yi (h.key (.inr ad));simp only[bj aa,aL,am ad,aA,he];cases e.1<;>exact ⟨_,rfl⟩
  ·by_cases bt:m.1=6
   ·simp only[bj aa,bj ad,aL,am bt,aA];exact ⟨_,rfl⟩
   ·by_cases al:m.1=3
    ·simp only[bj aa,bj ad,bj bt,aL,am al,aA];exact ⟨_,rfl⟩
    ·obtain ⟨a,aR⟩:=Option.isSome_iff_exists.1 (h.alike (by have:=h.kind;omega));simp only[bj aa,bj ad,bj bt,bj al,aL,aR];cases a.1
     ·exact ⟨_,rfl⟩
     ·cases decide ((m.1:Int)=(5:Int))<;>exact ⟨_,rfl⟩
theorem aoH {n:bq} (bX:n.2.2.1=[]) (h: ∀p∈n.1,oA p.1) (ao:n.1.length<=1000000): ∃s,pN (n,())=some s:=by
 obtain ⟨c,aB⟩:=aou n.1 h ao;have ai:(decide ((((List.length n.2.2.1):Int):Int)=(0:Int)))=true:=by rw[bX];rfl
 simp only[pN,ai,aA,aB,JB];exact ⟨_,rfl⟩
theorem aor {n:bq} (bX:n.2.2.1≠[]) (au:n.2.2.2.1.length<=1000000) (h: ∀m∈n.2.2.2.2.1,Hd m) (ao:n.2.2.2.2.1.length<=1000000): ∃s,pN (n,())=some s:=by
 have b8:(decide ((((List.length n.2.2.1):Int):Int)=(0:Int)))=false:=bj (by
  have:=List.length_pos_iff.2 bX;omega)
 obtain ⟨z,aa,x,rfl⟩:=bi (b:=Bg) (fun i (q:dY)=>((i:Int),n,0,0,0,0,q,())) n.2.2.2.1.length (fun _ _=>True) (fun z=> ∃x:dY,z=.inl (n,0,0,0,0,x,())) (by omega)
  (fun i ab q _=>by
   left;have ai:(decide (((i:Nat):Int)<((List.length n.2.2.2.1):Int)))=true:=am (by omega);have aq:=fm i;have bb:=fK i (by omega);simp only[Bg,ai,aq,aA,b7,bQ,cn ab,bb,J4];exact ⟨_,trivial,rfl⟩)
  (fun q _=>by
   have ai:(decide (((n.2.2.2.1.length:Nat):Int)<((List.length n.2.2.2.1):Int)))=false:=bj (by omega);exact ⟨_,⟨q,rfl⟩,by simp only[Bg,ai,aL]⟩) (((0:Int),((0:Int),())),(((0:Int),((0:Int),())),())) trivial
 have dc:I4 (0,n,0,0,0,0,(((0:Int),((0:Int),())),(((0:Int),((0:Int),())),())),())=some (.inl (n,0,0,0,0,x,())):=aa;obtain ⟨z,ad,y,rfl⟩:=bi (b:=Bh) (fun i (q:dY)=>((i:Int),n,0,0,0,0,q,())) n.2.2.2.2.1.length (fun _ _=>True) (fun z=> ∃x,z=.inl x) (by omega)
  (fun i ab q _=>by
   left;obtain ⟨c,aB⟩:=amu q (h n.2.2.2.2.1[i] (List.getElem_mem ab));have ai:(decide (((i:Nat):Int)<((List.length n.2.2.2.2.1):Int)))=true:=am (by omega);have aq:=fm i;have bb:=fK i (by omega);exact ⟨c.1,trivial,by simp only[Bh,ai,aq,aA,b7,bQ,cn ab,aB,bb]⟩)
  (fun q _=>by
   have ai:(decide (((n.2.2.2.2.1.length:Nat):Int)<((List.length n.2.2.2.2.1):Int)))=false:=bj (by omega);exact ⟨_,⟨_,rfl⟩,by simp only[Bh,ai,aL];rfl⟩) x trivial
 have gL:I5 (0,n,0,0,0,0,x,())=some (.inl y):=ad;exact ⟨_,by simp only[pN,b8,aL,dc,gL];rfl⟩
def six:List af:=[[97,47],[98,47],[97,47,98,47],[99,47],[100,47],[]]
def mP (s:ah):Prop:=s.2.1=[]\/Op.bytesLess s.1 s.2.1=true
def bI (k p:af):Bool:=decide (p.length<=k.length)&&decide (k.take p.length=p)
theorem CY (k p:af):q4 (k,p,())=some (bI k p,()):=by
 unfold q4 bI;by_cases h:p.length<=k.length
 ·have a7:((k.length:Int)>=(p.length:Int)):=by omega
  have aY:((0:Int)<=(p.length:Int)):=by omega
  have c3:((p.length:Int)<=(k.length:Int)):=by omega
  simp only[a7,aY,c3,am,aA,b7,bQ,List.drop_zero,h,Bool.true_and]
 ·have a7: ¬((k.length:Int)>=(p.length:Int)):=by omega
  simp only[a7,bj h,bj,aL,not_false_eq_true,Bool.false_and]
def c6 (p:af):ah:=(p,(if p=[] then [] else p.dropLast++[48]),())
theorem Zm: ∀(q k:af),(!Op.bytesLess k (q++[47])&&Op.bytesLess k (q++[48]))=bI k (q++[47])
 |[],[]=>by decide
 |[],x::k=>by
  show (!(decide (x<47)||(x==47&&Op.bytesLess k []))&&(decide (x<48)||(x==48&&Op.bytesLess k [])))=bI (x::k) [47];have e:Op.bytesLess k []=false:=by cases k<;>rfl
  rw[e];unfold bI;simp only[Bool.and_false,Bool.or_false,List.length_cons,List.length_nil,List.take_succ_cons,List.take_zero];have aa:decide (0+1<=k.length+1)=true:=am (by omega);rw[aa,Bool.true_and];have ad: ∀x:UInt8,(!decide (x<47)&&decide (x<48))=decide (x=47):=by
   intro x;rw[Bool.eq_iff_iff];simp only[bB,Bool.not_eq_true',decide_eq_false_iff_not,db,UInt8.lt_iff_toNat_lt,<-UInt8.toNat_inj];show (¬x.toNat<47/\x.toNat<48)↔x.toNat=47;omega
  rw[ad];congr 1;simp
 |d::q,[]=>by
  show (!Op.bytesLess [] (d::(q++[47]))&&_)=bI [] (d::(q++[47]));unfold bI;simp[Op.bytesLess]
 |d::q,x::k=>by
  have aO:=Zm q k;show (!(decide (x<d)||(x==d&&Op.bytesLess k (q++[47])))&&(decide (x<d)||(x==d&&Op.bytesLess k (q++[48]))))=bI (x::k) (d::(q++[47]));have ag:bI (x::k) (d::(q++[47]))=(decide (x=d)&&bI k (q++[47])):=by
   unfold bI;simp only[List.length_cons,List.take_succ_cons,List.cons.injEq,Nat.add_le_add_iff_right,Bool.decide_and];cases decide ((q++[47]).length<=k.length)<;>simp
  rw[ag,<-aO];by_cases aa:x=d
  ·subst aa;simp
  ·have al:(x==d)=false:=by simpa using aa
   simp only[al,Bool.false_and,Bool.or_false,bj aa];cases decide (x<d)<;>rfl
theorem kM: ∀p∈six,kN (p,())=some (c6 p,())/\l8 (p,())=some (c6 p,())/\(p=[]\/p=p.dropLast++[47]):=by
 have h:six.all (fun p=>decide (kN (p,())=some (c6 p,()))&&(decide (l8 (p,())=some (c6 p,()))&&(decide (p=[])||decide (p=p.dropLast++[47]))))=true:=by kernel_rfl
 intro p aP;have ad:=List.all_eq_true.1 h p aP;simp only[bB,Bool.or_eq_true,db]at ad;exact ad
theorem uJ {p:af} (h:p=[]\/p=p.dropLast++[47]) (k:af):bU (c6 p) k=bI k p:=by
 unfold bU c6;by_cases aP:p=[]
 ·subst aP;cases k<;>simp[bI,Op.bytesLess]
 ·have h:=h.resolve_left aP;have:=Zm p.dropLast k;rw[<-h]at this;rw[if_neg aP,<-this];have aQ: ¬(p.dropLast++[48]=[]):=by simp
  simp only[bj aQ,Bool.false_or]
theorem Lx {p:af} (h:p=[]\/p=p.dropLast++[47]):mP (c6 p):=by
 unfold mP c6;by_cases aP:p=[]
 ·left;simp[aP]
 ·right;have h:=h.resolve_left aP;simp only[if_neg aP];have: ∀q:af,Op.bytesLess (q++[47]) (q++[48])=true:=by
   intro q
   induction q with
   |nil=>decide
   |cons a q aO=>simp[Op.bytesLess,aO]
  conv=>lhs;arg 1;rw[h]
  exact this _
def jk:List af:=[[97,47],[98,47],[97,47,98,47],[99,47]].flatMap fun p=>[[1],[2,0,0],[2,0,1],[2,0,2],[3,120]].map fun s=>p++s
theorem Yo (n:Int) (h:0<=n/\n<256): ∃k∈jk,xb (n,())=some (k,()):=by
 obtain ⟨k,rfl⟩:=Int.eq_ofNat_of_zero_le h.1;have av:k<256:=by omega
 have aB:(List.range 256).all (fun k=>match xb ((k:Int),()) with |some (p,())=>jk.contains p |none=>false)=true:=by kernel_rfl
 have:=List.all_eq_true.1 aB k (List.mem_range.2 av);cases aP:xb ((k:Int),()) with
 |none=>rw[aP]at this;cases this
 |some r=>
  obtain ⟨p,u⟩:=r;rw[aP]at this;exact ⟨p,by simpa using this,rfl⟩
theorem amS (n:Int) (h:0<=n/\n<256): ∃v:af,v.length<=10/\tu (n,())=some (v,()):=by
 obtain ⟨k,rfl⟩:=Int.eq_ofNat_of_zero_le h.1;have av:k<256:=by omega
 have aB:(List.range 256).all (fun k=>match tu ((k:Int),()) with |some (p,())=>decide (p.length<=10)|none=>false)=true:=by kernel_rfl
 have:=List.all_eq_true.1 aB k (List.mem_range.2 av);cases aP:tu ((k:Int),()) with
 |none=>rw[aP]at this;cases this
 |some r=>
  obtain ⟨p,u⟩:=r;rw[aP]at this;exact ⟨p,by simpa using this,rfl⟩
def eM:List af:=[[97,47],[98,47],[97,47,98,47],[99,47],[100,47]]
theorem XA (n:Int) (h:0<=n/\n<256): ∃p∈eM,od (n,())=some (p,()):=by
 obtain ⟨k,rfl⟩:=Int.eq_ofNat_of_zero_le h.1;have av:k<256:=by omega
 have aB:(List.range 256).all (fun k=>match od ((k:Int),()) with |some (p,())=>eM.contains p |none=>false)=true:=by kernel_rfl
 have:=List.all_eq_true.1 aB k (List.mem_range.2 av);cases aP:od ((k:Int),()) with
 |none=>rw[aP]at this;cases this
 |some r=>
  obtain ⟨p,u⟩:=r;rw[aP]at this;exact ⟨p,by simpa using this,rfl⟩
theorem j8: ∀p∈eM,p∈six:=by
 intro p aP;simp only[eM,six,List.mem_cons,List.mem_nil_iff,or_false]at aP ⊢;rcases aP with h |h |h |h |h<;>simp[h]
def mo (a b:af):af:=bif bI a b||bI b a then (bif decide (a=[100,47]) then [99,47] else [100,47]) else b
theorem afK: ∀a∈eM,∀b∈eM,mo a b∈eM/\bI a (mo a b)=false/\bI (mo a b) a=false:=by
 have h:eM.all (fun a=>eM.all fun b=>eM.contains (mo a b)&&(!bI a (mo a b)&& !bI (mo a b) a))=true:=by kernel_rfl
 intro a aR b ag;have:=List.all_eq_true.1 (List.all_eq_true.1 h a aR) b ag;simpa using this
abbrev oF:Type:=(Int)×(Int)×(Int)×(Int)×(Int)×(Int)×Unit
def kb (a:Int) (k v f t:af) (s:ah) (n:Int):a6:=
 bif decide (a=0) then (1,k,v,([],[],()),[],[],n,())
 else bif decide (a=1) then (2,k,[],([],[],()),[],[],0,())
 else bif decide (a=2) then (3,[],[],s,[],[],0,())
 else bif decide (a=3) then (4,[],[],([],[],()),f,t,0,())
 else bif decide (a=4) then (5,[],[],([],[],()),f,t,0,())
 else (6,[],[],s,[],[],n,())
theorem afb (k f t v:af) (x:oF) (s:ah) (aX:tu (x.2.2.1,())=some (v,())):
  pt (k,f,t,x,(0:Int),[],[],[],[],[],[],(0:Int),s,())=some (.inl (kb (Int.tmod x.1 6) k v f t s (i64.wrap (Int.tmod x.2.2.2.2.2.1 8)))):=by
 unfold pt kb;simp only[aX];cases decide (Int.tmod x.1 6=0)<;>cases decide (Int.tmod x.1 6=1)<;>cases decide (Int.tmod x.1 6=2)<;>cases decide (Int.tmod x.1 6=3)<;>cases decide (Int.tmod x.1 6=4)<;>rfl
theorem afa (k f t v:af) (x:oF) (s:ah) (aX:tu (x.2.2.1,())=some (v,())) (aJ:od (x.2.1,())=some (f,())) (aU:od (x.2.2.2.1,())=some (t,())):
  lJ (k,x,(0:Int),[],[],[],[],[],[],(0:Int),s,())=some (.inl (kb (Int.tmod x.1 6) k v f (mo f t) s (i64.wrap (Int.tmod x.2.2.2.2.2.1 8)))):=by
 unfold lJ qF mo;simp only[aJ,aU,CY];cases bI f t<;>cases bI t f<;>cases decide (f=[100,47])<;>simp only[dt,dr,aA,aL,Bool.or_true,Bool.or_false,Bool.true_or,Bool.false_or,afb k _ _ v x s aX]
structure fL (m:a6):Prop where
 kind:m.1=1\/m.1=2\/m.1=3\/m.1=4\/m.1=5\/m.1=6
 key:m.1=1\/m.1=2->m.2.1∈jk
 val:m.1=1->m.2.2.1.length<=10
 span:m.1=3\/m.1=6->mP m.2.2.2.1
 from_:m.1=4\/m.1=5->m.2.2.2.2.1∈eM
 to_:m.1=4\/m.1=5->m.2.2.2.2.2.1∈eM
 apart:m.1=4\/m.1=5->bI m.2.2.2.2.1 m.2.2.2.2.2.1=false/\bI m.2.2.2.2.2.1 m.2.2.2.2.1=false
theorem amV (a:Int) (k v f t:af) (s:ah) (n:Int) (av:k∈jk) (aX:v.length<=10) (aJ:f∈eM) (aU:t∈eM) (au:mP s) (aa:bI f t=false) (ad:bI t f=false):fL (kb a k v f t s n):=by
 unfold kb;cases decide (a=0) with
 |true=>exact ⟨by simp,fun _=>av,fun _=>aX,(by simp),(by simp),(by simp),(by simp)⟩
 |false=>
  cases decide (a=1) with
  |true=>exact ⟨by simp,fun _=>av,(by simp),(by simp),(by simp),(by simp),(by simp)⟩
  |false=>
   cases decide (a=2) with
   |true=>exact ⟨by simp,(by simp),(by simp),fun _=>au,(by simp),(by simp),(by simp)⟩
   |false=>
    cases decide (a=3) with
    |true=>exact ⟨by simp,(by simp),(by simp),(by simp),fun _=>aJ,fun _=>aU,fun _=>⟨aa,ad⟩⟩
    |false=>
     cases decide (a=4) with
     |true=>exact ⟨by simp,(by simp),(by simp),(by simp),fun _=>aJ,fun _=>aU,fun _=>⟨aa,ad⟩⟩
     |false=>exact ⟨by simp,(by simp),(by simp),fun _=>au,(by simp),(by simp),(by simp)⟩
def wM (x:oF):Prop:=(0<=x.1/\x.1<256)/\(0<=x.2.1/\x.2.1<256)/\(0<=x.2.2.1/\x.2.2.1<256)/\(0<=x.2.2.2.1/\x.2.2.2.1<256)
theorem ZN (k:af):Op.bytesLess k (k++[0])=true:=by
 induction k with
 |nil=>rfl
 |cons a k aO=>simp[Op.bytesLess,aO]
theorem am8: ∀k∈jk,oA k:=by
 have h:jk.all (fun k=>(tt (k,())).isSome)=true:=by kernel_rfl
 exact fun k av=>List.all_eq_true.1 h k av
theorem amh: ∀a∈eM,∀b∈eM,(AM (a,b,())).isSome=true:=by
 have h:eM.all (fun a=>eM.all fun b=>(AM (a,b,())).isSome)=true:=by kernel_rfl
 exact fun a aR b ag=>List.all_eq_true.1 (List.all_eq_true.1 h a aR) b ag
theorem fL.mok {m:a6} (h:fL m):Hd m:=
 ⟨by have:=h.kind;omega,fun av=>am8 _ (h.key av),fun av=>amh _ (h.from_ av) _ (h.to_ av)⟩
theorem Yq (a b:af): ∃r,tH (a,b,())=some (r,()):=by
 simp only[tH];cases (!decide (a=([]:af)))
 ·exact ⟨_,rfl⟩
 ·cases (!decide (b=([]:af)))<;>exact ⟨_,rfl⟩
theorem Ke (s:ah): ∃r,ra (s,())=some (r,()):=by
 simp only[ra];cases (!decide (s.2.1=([]:af)))<;>exact ⟨_,rfl⟩
theorem al4 (a b c d:af): ∃r,GK (a,b,c,d,())=some (r,()):=by
 obtain ⟨e,he⟩:=Ke (c,d,());simp only[GK,he,J3];cases e<;>exact ⟨_,rfl⟩
theorem Ys (a b:ah): ∃r,xF (a,b,())=some (r,()):=by
 obtain ⟨l,ao⟩:=Yq b.2.1 a.2.1;simp only[xF,ao];cases l<;>simp only[aA,aL]<;>exact al4 _ _ _ _
theorem Xt (a b:ah): ∃r,n9 (a,b,())=some (r,()):=by
 obtain ⟨e,he⟩:=Ke b;obtain ⟨f,aJ⟩:=Ke a;obtain ⟨l,ao⟩:=Yq a.2.1 b.2.1;simp only[n9,he,aJ,ao];cases e<;>cases f<;>cases (Op.bytesLess a.1 b.1||decide ((a.1:af)=b.1))<;>exact ⟨_,rfl⟩
theorem anF (s:ah) (ps:List af) (ao:ps.length<=100000): ∃l,wX (s,ps,())=some (l,())/\l.length=ps.length+1:=by
 obtain ⟨z,aa,q,rfl,aN⟩:=bi (b:=AD) (fun i (q:af×List ah)=>(ps,q.1,(i:Int),s,q.2,())) ps.length (fun i q=>q.2.length=i) (fun z=> ∃q:af×List ah,z=.inl (q.1,s,q.2,())/\q.2.length=ps.length) (by omega)
  (fun i ab q aN=>by
   left;have ai:=gw (i:=i) (l:=ps) (by omega);have aq:=fm i;have bb:=fK i (by omega);obtain ⟨r,az⟩:=Ys s (q.1,(ps[i],()));have c9: ∀x:ah,(decide ((List.length q.2+List.length ([x]:List (ah)))*32<=bm))=true:=fun x=>am (by rw[aN,dV];simp;omega)
   exact ⟨(ps[i],q.2++[r]),by simp[aN],by simp only[AD,ai,aq,aA,b7,bQ,cn ab,az,c9,bb]⟩)
  (fun q aN=>by
   have ai:=hy ps;exact ⟨_,⟨q,rfl,aN⟩,by simp only[AD,ai,aL]⟩) (([]:af),([]:List ah)) rfl
 have dc:HQ (ps,[],0,s,[],())=some (.inl (q.1,s,q.2,())):=aa;obtain ⟨r,az⟩:=Ys s (q.1,(([]:af),()));have c9: ∀x:ah,(decide ((List.length q.2+List.length ([x]:List (ah)))*32<=bm))=true:=fun x=>am (by rw[aN,dV];simp;omega)
 exact ⟨q.2++[r],by simp only[wX,dc,az,c9,aA],by simp[aN]⟩
theorem xE {p:af} (h:p∈eM): ∃r,l8 (p,())=some (r,()):=⟨_,(kM p (j8 p h)).2.1⟩
theorem Zk {k:af} (h:k∈jk): ∃r,mK (k,())=some (r,()):=by
 have hlen:jk.all (fun k=>decide (k.length<100))=true:=by kernel_rfl
 have:=of_decide_eq_true (List.all_eq_true.1 hlen k h);have:k.length+([0]:af).length<=bm:=by rw[dV];simp;omega
 simp only[mK,this,am,aA];exact ⟨_,rfl⟩
theorem anJ {m:a6} (h:fL m): ∃l,mI (m,())=some (l,())/\l.length<=2:=by
 simp only[mI,pw];by_cases aE:m.1=4
 ·obtain ⟨r,az⟩:=xE (h.from_ (.inl aE));simp only[am aE,aA,az];exact ⟨_,rfl,by simp⟩
 ·by_cases aZ:m.1=5
  ·obtain ⟨r,az⟩:=xE (h.from_ (.inr aZ));simp only[bj aE,am aZ,aA,aL,az];exact ⟨_,rfl,by simp⟩
  ·simp only[bj aE,bj aZ,aL];cases decide (m.1=6)<;>exact ⟨_,rfl,by simp⟩
theorem amU {m:a6} (h:fL m): ∃l,kr (m,())=some (l,())/\l.length<=2:=by
 simp only[kr,mq];by_cases aa:m.1=1
 ·obtain ⟨r,az⟩:=Zk (h.key (.inl aa));simp only[am aa,aA,az];exact ⟨_,rfl,by simp⟩
 ·by_cases ad:m.1=2
  ·obtain ⟨r,az⟩:=Zk (h.key (.inr ad));simp only[bj aa,am ad,aA,aL,az];exact ⟨_,rfl,by simp⟩
  ·by_cases aE:m.1=4
   ·obtain ⟨r,az⟩:=xE (h.from_ (.inl aE));obtain ⟨t,aU⟩:=xE (h.to_ (.inl aE));simp only[bj aa,bj ad,am aE,aA,aL,az,aU];exact ⟨_,rfl,by simp⟩
   ·by_cases aZ:m.1=5
    ·obtain ⟨t,aU⟩:=xE (h.to_ (.inr aZ));simp only[bj aa,bj ad,bj aE,am aZ,aA,aL,aU];exact ⟨_,rfl,by simp⟩
    ·simp only[bj aa,bj ad,bj aE,bj aZ,aL];exact ⟨_,rfl,by simp⟩
theorem al2 (s:ah) (l:List ah) (ao:l.length<=1000): ∃r,GN (0,s,l,())=some r:=by
 obtain ⟨z,aa,-⟩:=bi (b:=qZ) (fun i (_:Unit)=>((i:Int),s,l,())) l.length (fun _ _=>True) (fun _=>True) (by omega)
  (fun i ab _ _=>by
   have ai:=gw (i:=i) (l:=l) (by omega);have aq:=fm i;have bb:=fK i (by omega);obtain ⟨r,az⟩:=Xt s l[i];simp only[qZ,ai,aq,aA,b7,bQ,cn ab,az,bb];cases r
   ·exact .inr ⟨_,trivial,rfl⟩
   ·exact .inl ⟨(),trivial,rfl⟩)
  (fun _ _=>by
   have ai:=hy l;exact ⟨_,trivial,by simp only[qZ,ai,aL];rfl⟩) () trivial
 exact ⟨z,aa⟩
theorem aog {m:a6} (h:fL m) (s:ah): ∃r,kc (m,s,())=some (r,()):=by
 obtain ⟨a,aR,ap8⟩:=anJ h;obtain ⟨b,ag,dB⟩:=amU h;obtain ⟨z,bz⟩:=al2 s (([]++a)++b) (by simp;omega);have ai:(decide ((List.length ([]:List (ah))+List.length a)*32<=bm))=true:=am (by rw[dV];simp;omega);have aq:(decide ((List.length (([]:List (ah))++a)+List.length b)*32<=bm))=true:=am (by rw[dV];simp;omega);simp only[kc,aR,ag,ai,aq,aA,bz];cases z<;>exact ⟨_,rfl⟩
abbrev pX:Type:=((bN)×(List (ak))×(ah)×(List (List af))×(eg)×Unit)->Option ((er)×Unit)
def nH (ns:List bq):Nat->Nat->Prop
 |0,_=>False
 |h+1,i=> ∃n,ns[i]? =some n/\
   ((h=0/\n.2.2.1=[]/\n.1.length<=1000/\ ∀p∈n.1,oA p.1)\/
    (0<h/\ ∃ks:List Nat,n.2.2.1=dM ks/\ks.length=n.2.1.length+1/\n.2.1.length<=100/\n.2.2.2.1.length<=1000/\n.2.2.2.2.1.length<=5/\(∀m∈n.2.2.2.2.1,fL m)/\ ∀k∈ks,nH ns h k))
theorem nH.app {ns:List bq} (l:List bq): ∀{h i:Nat},nH ns h i->nH (ns++l) h i
 |0,_,h=>h.elim
 |h+1,i,⟨n,aQ,bC⟩=>by
  refine ⟨n,?_,bC.imp id fun ⟨bX,ks,a,b,c,d,e,f,g⟩=>⟨bX,ks,a,b,c,d,e,f,fun k av=>nH.app l (g k av)⟩⟩;rw[List.getElem?_append_left (List.getElem?_eq_some_iff.1 aQ).1];exact aQ
theorem nH.lt {ns:List bq} {h i:Nat} (t:nH ns h i):i<ns.length:=by
 cases h with
 |zero=>exact t.elim
 |succ h=>
  obtain ⟨n,aQ,-⟩:=t;exact (List.getElem?_eq_some_iff.1 aQ).1
theorem nH.sum {ns:List bq} {h i:Nat} (t:nH ns h i) (n:bq) (aQ:ns[i]? =some n): ∃s,pN (n,())=some s:=by
 cases h with
 |zero=>exact t.elim
 |succ h=>
  obtain ⟨m,hm,bC⟩:=t;obtain rfl:=Option.some.inj (hm.symm.trans aQ);rcases bC with ⟨-,bX,aa,ad⟩|⟨-,ks,a,b,c,d,e,f,g⟩
  ·exact aoH bX ad (by omega)
  ·refine aor ?_ (by omega) (fun m hm=>(f m hm).mok) (by omega);intro h;rw[a]at h;have:=congrArg List.length h;rw[iK,List.length_nil]at this;omega
structure Ha where
 l:List bq
 ks:List Nat
 sums:List dY
theorem aoC (r:pX) (N:List bq) (ks:List Nat) (a8: ∀k∈ks,k<N.length) (aQ:ks.Nodup) (ao:N.length<=1000) (iN:ks.length<=1000) (a:n7) (piv:List af) (sums:List dY) (buf:List a6):
  v6 r (0,[],0,[],a,(mk N (fun j=>if j∈ks then 2 else 1),()),piv,dM ks,sums,buf,())=some (.inl ([],0,a,(mk N (fun _=>1),()),())):=by
 obtain ⟨z,aa,ad⟩:=bi (b:=wA r) (fun i (p:List cX)=>((i:Int),[],0,[],a,(p,()),piv,dM ks,sums,buf,())) ks.length (fun i p=>p=mk N (fun j=>if j∈ks.drop i then 2 else 1)) (fun z=>z=.inl ([],0,a,(mk N (fun _=>1),()),())) (by omega)
  (fun i ab p aP=>by
   left;subst aP;refine ⟨_,rfl,?_⟩;have lh:ks[i]<N.length:=a8 _ (List.getElem_mem ab);have ai:(decide (((i:Nat):Int)<((List.length (dM ks)):Int)))=true:=am (by rw[iK];omega);have aq:=fm i;have bb:=fK i (by omega);have ax:ks.drop i=ks[i]::ks.drop (i+1):=List.drop_eq_getElem_cons ab;have dT:(ks[i]::ks.drop (i+1)).Nodup:=by rw[<-ax];exact aQ.sublist (List.drop_sublist _ _)
   have pg:=(List.nodup_cons.1 dT).1;have bx:=aoZ (ns:=N) (r:=fun j=>if j∈ks.drop i then 2 else 1) lh (if_pos (by rw[ax];exact List.mem_cons_self)) ao;have c9:mk N (fun j=>if j=ks[i] then 1 else if j∈ks.drop i then 2 else 1)=mk N (fun j=>if j∈ks.drop (i+1) then 2 else 1):=xT fun j _=>by
    by_cases ay:j=ks[i]
    ·rw[if_pos ay,if_neg (by rw[ay];exact pg)]
    ·rw[if_neg ay];have:j∈ks.drop i↔j∈ks.drop (i+1):=by rw[ax,List.mem_cons];exact ⟨fun h=>h.resolve_left ay,.inr⟩
     by_cases ad:j∈ks.drop i
     ·rw[if_pos ad,if_pos (this.1 ad)]
     ·rw[if_neg ad,if_neg (fun h=>ad (this.2 h))]
   rw[c9]at bx;simp only[wA,ai,aq,aA,b7,bQ,tE ab,bx,bb])
  (fun p aP=>by
   subst aP;have ai:(decide (((ks.length:Nat):Int)<((List.length (dM ks)):Int)))=false:=bj (by rw[iK];omega);have c9:mk N (fun j=>if j∈ks.drop ks.length then 2 else 1)=mk N (fun _=>1):=xT fun j _=>by rw[List.drop_length];simp
   exact ⟨_,rfl,by simp only[wA,ai,aL,c9]⟩) (mk N (fun j=>if j∈ks then 2 else 1)) (by simp)
 subst ad;exact aa
theorem aoB (r:pX) (N:List bq) (ks:List Nat) (a8: ∀k∈ks,k<N.length) (aQ:ks.Nodup) (ao:N.length<=899) (iN:ks.length<=1000) (piv:List af) (sums:List dY) (buf:List a6):
  th r ((mk N (fun _=>1),()),[],0,[],piv,dM ks,sums,buf,())=some (((mk (N++[([],piv,dM ks,sums,buf,())]) (fun _=>1),()),((N.length:Nat):Int),()),()):=by
 have ai:=ZE (ns:=N) (n:=([],piv,dM ks,sums,buf,())) (ks:=ks) rfl a8 aQ iN (by omega);have aq:=aoC r (N++[([],piv,dM ks,sums,buf,())]) ks (fun k av=>by have:=a8 k av;simp;omega) aQ (by simp;omega) iN ((mk (N++[([],piv,dM ks,sums,buf,())]) (fun j=>if j∈ks then 2 else 1),()),((N.length:Int),(0,()))) piv sums buf;simp only[th,ai,aq]
structure ae3 (x:eg):Prop where
 b0:(∀y∈x.2.1.1,wM y)/\x.2.1.1.length<1000000000000000000
 b1:(∀y∈x.2.1.2.1,wM y)/\x.2.1.2.1.length<1000000000000000000
 b2:(∀y∈x.2.1.2.2.1,wM y)/\x.2.1.2.2.1.length<1000000000000000000
 b3:(∀y∈x.2.1.2.2.2.1,wM y)/\x.2.1.2.2.2.1.length<1000000000000000000
structure uq (t:List ak):Prop where
 len:t.length<=1000
 key: ∀p∈t,oA p.1
theorem Ld (p q:ak): ∀t:List ak,q∈ins p t->q=p\/q∈t
 |[],h=>by simp[ins]at h;exact .inl h
 |x::t,h=>by
  unfold ins at h;cases ag:Op.bytesLess x.1 p.1
  ·rw[ag,aL]at h;rcases List.mem_cons.1 h with h |h
   ·exact .inl h
   ·exact .inr (List.mem_filter.1 h).1
  ·rw[ag,aA]at h;rcases List.mem_cons.1 h with h |h
   ·exact .inr (by rw[h];exact List.mem_cons_self)
   ·exact (Ld p q t h).imp id (List.mem_cons_of_mem _)
theorem X4 (l:List fa) (q:ak) (h:q∈mn l): ∃y∈l,q=nC y:=by
 have key: ∀(l:List fa) (t:List ak),q∈l.foldl (fun t x=>ins (nC x) t) t->q∈t\/ ∃y∈l,q=nC y:=by
  intro l
  induction l with
  |nil=>intro t h;exact .inl h
  |cons x l aO=>
   intro t h;rcases aO _ h with h |⟨y,bf,e⟩
   ·rcases Ld _ _ _ h with h |h
    ·exact .inr ⟨x,List.mem_cons_self,h⟩
    ·exact .inl h
   ·exact .inr ⟨y,List.mem_cons_of_mem _ bf,e⟩
 rcases key l [] h with h |h
 ·simp at h
 ·exact h
theorem afF (n:Int) (bX:0<=n) (aa:n<256):oA (qg n):=by
 obtain ⟨m,rfl⟩:=Int.eq_ofNat_of_zero_le bX;have aB:(List.range 256).all (fun k=>(tt (qg ((k:Nat):Int),())).isSome)=true:=by kernel_rfl
 exact List.all_eq_true.1 aB m (List.mem_range.2 (by omega))
theorem afV (l:List fa) (h: ∀x∈l,tB x):uq (mn (l.take 40)):=by
 refine ⟨?_,fun p aP=> ?_⟩
 ·have:=Kx (l.take 40);simp only[List.length_take]at this;omega
 ·obtain ⟨y,bf,rfl⟩:=X4 _ _ aP;have:=(h y (List.mem_of_mem_take bf)).1;exact afF y.1 this.1 this.2
def cap:Nat->Nat
 |0=>1
 |d+1=>1+6*cap d
structure auP (x:eg):Prop where
 xok:ae3 x
 t:(∀y∈x.1,tB y)/\x.1.length<1000000000000000000
 w:0<=x.2.2.1/\x.2.2.1<256
def lA:List (List (List af)):=[[],[[[97,47,98,47],[98,47],[99,47]]],[[[98,47]],[[97,47,2],[97,47,98,47],[99,47]]],[[[97,47,98,47],[98,47]],[[97,47,98,47,2],[99,47],[100,47]]]]
def rz (w:Int):fa:=(i64.wrap (2+i64.wrap (Int.tmod (IntKind.u8.wrap (Int.tdiv w 4)) 4)),(i64.wrap (2+i64.wrap (Int.tmod (IntKind.u8.wrap (Int.tdiv w 16)) 3)),(i64.wrap (1+i64.wrap (IntKind.u8.wrap (Int.tdiv w 64))),())))
theorem aoj (x:eg):CO (x,())=match xG (x.1,()) with
  |none=>none
  |some aj=>bif (decide ((0:Int)<=i64.wrap (Int.tmod x.2.2.1 4))&&decide (i64.wrap (Int.tmod x.2.2.1 4)<(List.length lA:Int))) then
    match CA ((([]:List (cX)),()),aj.1,(([]:af),(([]:af),())),List.getD lA (Int.toNat (i64.wrap (Int.tmod x.2.2.1 4))) [],x,()) with
    |none=>none
    |some bF=>some ((bF.1.1,(bF.1.2.1,(rz x.2.2.1,()))),())
   else none:=rfl
theorem ZK {I J:Nat} (h:I+J<4611686018427387904):Int.fdiv (IntKind.u64.wrap (i64.wrap ((I:Int)+(J:Int)))) (2^(min (Int.toNat (1:Int)) IntKind.u64.bits))=(((I+J)/2:Nat):Int):=by
 have ai:i64.wrap ((I:Int)+(J:Int))=((I+J:Nat):Int):=by rw[cR (by omega)];omega
 have aq:IntKind.u64.wrap ((I+J:Nat):Int)=((I+J:Nat):Int):=by
  show ((I+J:Nat):Int)%2^64=_;omega
 rw[ai,aq];have bb:(2:Int)^(min (Int.toNat (1:Int)) IntKind.u64.bits)=2:=by decide
 rw[bb,Int.fdiv_eq_ediv_of_nonneg _ (by omega)];omega
theorem aoe (a b:af):Gh (a,b,())=some (Op.bytesLess a b,()):=by
 simp[Gh,s6]
abbrev tW:Type:=(Bool)×(Bool)×af×af×(Int)×af×(Bool)×(Int)×Unit
abbrev Hg:Type:=(Bool)×(Bool)×af×af×(Int)×af×(Bool)×(Int)×(Bool)×(Bool)×af×af×(Int)×af×(Bool)×(Int)×Unit
theorem anG: ∀p∈eM,p.length<=4:=by decide
def k4 (x y:af):Int:=if Op.bytesLess x y=true then-1 else if x=y then 0 else 1
theorem aoW {x y:af}:(k4 x y=0)↔x=y:=by
 unfold k4;split
 ·rename_i h;have:=jl h;simp[this]
 ·split<;>simp[*]
theorem YB: ∀(a b:af),Lib.compareBytes a b=k4 a b
 |[],[]=>rfl
 |[],_::_=>rfl
 |_::_,[]=>rfl
 |a::x,b::y=>by
  have aO:=YB x y;rw[Lib.compareBytes];unfold k4 at aO ⊢;simp only[Op.bytesLess];by_cases aa:a<b
  ·simp[aa]
  ·by_cases ad:b<a
   ·have al:a≠b:=by rintro rfl;exact aa ad
    simp[aa,ad,al]
   ·have al:a=b:=UInt8.le_antisymm (UInt8.not_lt.1 ad) (UInt8.not_lt.1 aa);subst al;rw[if_neg aa,if_neg aa,aO];simp
theorem XC (p:ak) (k:af):A4 (p,k,())=some (k4 p.1 k,()):=by
 unfold A4 PB Ob;simp only[YB]
theorem ox (n:bq):rK (n,())=some (decide ((((List.length n.2.2.1):Int):Int)=(0:Int)),()):=rfl
theorem Kl (x:oF) (h:wM x): ∃k v f t s,w0 (x,())=some (kb (Int.tmod x.1 6) k v f (mo f t) s (i64.wrap (Int.tmod x.2.2.2.2.2.1 8)),())/\fL (kb (Int.tmod x.1 6) k v f (mo f t) s (i64.wrap (Int.tmod x.2.2.2.2.2.1 8)))/\f∈eM/\t∈eM/\s.1.length<=200/\s.2.1.length<=200:=by
 obtain ⟨aa,ad,al,aE⟩:=h;obtain ⟨k,av,apG⟩:=Yo _ ad;obtain ⟨l,ao,el⟩:=Yo _ aE;obtain ⟨v,aX,ev⟩:=amS _ al;obtain ⟨f,aJ,Z2⟩:=XA _ ad;obtain ⟨t,aU,mu⟩:=XA _ aE;obtain ⟨t1,t2,t3⟩:=afK f aJ t aU;obtain ⟨_,apH,apI⟩:=kM f (j8 f aJ);have ai:mK (k,())=some ((k,k++[0],()),()):=by
  unfold mK;have hlen:jk.all (fun k=>decide (k.length<100))=true:=by kernel_rfl
  have:=of_decide_eq_true (List.all_eq_true.1 hlen k av);have:k.length+([0]:af).length<=bm:=by rw[dV];simp;omega
  simp only[this,am,aA]
 have avf:k.length<100:=by
  have hlen:jk.all (fun k=>decide (k.length<100))=true:=by kernel_rfl
  exact of_decide_eq_true (List.all_eq_true.1 hlen k av)
 have avi:l.length<100:=by
  have hlen:jk.all (fun k=>decide (k.length<100))=true:=by kernel_rfl
  exact of_decide_eq_true (List.all_eq_true.1 hlen l ao)
 have aqv:(c6 f).1.length<=200/\(c6 f).2.1.length<=200:=by
  have hlen:eM.all (fun p=>decide ((c6 p).1.length<=200)&&decide ((c6 p).2.1.length<=200))=true:=by kernel_rfl
  have:=List.all_eq_true.1 hlen f aJ;simpa using this
 have fin: ∀s:ah,mP s->(s.1.length<=200/\s.2.1.length<=200)-> ∃k' jR ku hb gd,(match lJ (k,x,(0:Int),([]:af),([]:af),([]:af),([]:af),([]:af),([]:af),(0:Int),s,()) with
   |none=>none
   |some (.inl e2)=>some ((e2.1,(e2.2.1,(e2.2.2.1,(e2.2.2.2.1,(e2.2.2.2.2.1,(e2.2.2.2.2.2.1,(e2.2.2.2.2.2.2.1,()))))))),())
   |some (.inr e2)=>none)=some (kb (Int.tmod x.1 6) k' jR ku (mo ku hb) gd (i64.wrap (Int.tmod x.2.2.2.2.2.1 8)),())/\fL (kb (Int.tmod x.1 6) k' jR ku (mo ku hb) gd (i64.wrap (Int.tmod x.2.2.2.2.2.1 8)))/\ku∈eM/\hb∈eM/\gd.1.length<=200/\gd.2.1.length<=200:=by
  intro s au zV;refine ⟨k,v,f,t,s,?_,amV _ _ _ _ _ _ _ av aX aJ t1 au t2 t3,aJ,aU,zV⟩;rw[afa k f t v x s ev Z2 mu]
 unfold w0;simp only[apG,el,Z2,apH,ai];cases decide (Int.tmod x.2.2.2.2.1 4=0) with
 |true=>exact fin _ (Lx apI) aqv
 |false=>
  simp only[aL];cases decide (Int.tmod x.2.2.2.2.1 16=1) with
  |true=>exact fin _ (.inl rfl) ⟨by (try simp only[List.length_append,List.length_nil,List.length_cons]);omega,by (try simp only[List.length_append,List.length_nil,List.length_cons]);omega⟩
  |false=>
   simp only[aL];cases decide (Int.tmod x.2.2.2.2.1 16=5) with
   |true=>exact fin _ (.inl rfl) ⟨by (try simp only[List.length_append,List.length_nil,List.length_cons]);omega,by (try simp only[List.length_append,List.length_nil,List.length_cons]);omega⟩
   |false=>
    simp only[aL];by_cases iN:k=l
    ·simp only[am iN,aA];exact fin _ (.inr (ZN k)) ⟨by (try simp only[List.length_append,List.length_nil,List.length_cons]);omega,by (try simp only[List.length_append,List.length_nil,List.length_cons]);omega⟩
    ·simp only[bj iN,aL];refine fin _ (Or.inr ?_) ?_
     rotate_left
     ·cases Op.bytesLess k l<;>simp<;>omega
     rcases hg k l with h |h |h
     ·simp only[h,Bool.true_or,aA,dt,aL]
     ·exact absurd h iN
     ·simp only[hG h,Bool.false_or,Bool.or_false,dr,aA,aL];exact h
def rn (x:oF):Prop:=wM x/\(0<=x.2.2.2.2.1/\x.2.2.2.2.1<256)/\0<=x.2.2.2.2.2.1/\x.2.2.2.2.2.1<256
def hr (m:a6):Prop:= ∃x:oF,rn x/\w0 (x,())=some (m,())
theorem hr.ok {m:a6} (h:hr m):fL m:=by
 obtain ⟨x,aw,e⟩:=h;obtain ⟨k,v,f,t,s,aq,ok,-,-⟩:=Kl x aw.1;have bb:=Option.some.inj (e.symm.trans aq);have bx:m=_:=congrArg Prod.fst bb;rw[bx];exact ok
theorem afx (l:List oF) (h: ∀x∈l,rn x) (n:Nat) (aQ:n<=1000) (ao:l.length<1000000000000000000): ∃ms,CN (l,(n:Int),())=some (ms,())/\ms.length<=n/\ ∀m∈ms,hr m:=by
 obtain ⟨z,aa,ms,rfl,ad,al⟩:=bi (b:=wG) (fun i (out:List a6)=>(l,(n:Int),(i:Int),out,())) (min l.length n) (fun i out=>out.length=i/\ ∀m∈out,hr m) (fun z=> ∃ms,z=.inl (ms,())/\ms.length<=n/\ ∀m∈ms,hr m) (by omega)
  (fun i ab out an=>by
   left;obtain ⟨vJ,sP⟩:=an;have hI:i<l.length:=by omega
   obtain ⟨wq,e,ok⟩: ∃wq,w0 (l[i],())=some (wq,())/\hr wq:=by
    obtain ⟨k,v,f,t,s,e,ok,-,-⟩:=Kl l[i] (h _ (List.getElem_mem hI)).1;exact ⟨_,e,l[i],h _ (List.getElem_mem hI),e⟩
   refine ⟨out++[wq],⟨by rw[List.length_append,vJ];rfl,fun m hm=> ?_⟩,?_⟩
   rotate_left
   ·have ai:=gw (i:=i) (l:=l) (by omega);have aq:=fm i;have bb:=fK i (by omega);have bx:(decide (((i:Nat):Int)<(n:Int)))=true:=am (by omega);have c9: ∀x:a6,(decide ((List.length out+List.length ([x]:List (a6)))*112<=bm))=true:=fun x=>am (by rw[vJ,dV];simp;omega)
    simp only[wG,Aq,ai,aq,bx,aA,b7,bQ,cn hI,e,c9,bb]
   ·rcases List.mem_append.1 hm with hm |hm
    ·exact sP m hm
    ·rw[List.mem_singleton.1 hm];exact ok)
  (fun out an=>by
   obtain ⟨vJ,sP⟩:=an;refine ⟨_,⟨out,rfl,by omega,sP⟩,?_⟩;rcases Nat.lt_or_ge (min l.length n) l.length with aa |aa
   ·have ai:(decide (((min l.length n:Nat):Int)<((List.length l):Int)))=true:=am (by omega);have bx:(decide (((min l.length n:Nat):Int)<(n:Int)))=false:=bj (by omega);simp only[wG,Aq,ai,bx,aA,aL]
   ·have ai:(decide (((min l.length n:Nat):Int)<((List.length l):Int)))=false:=bj (by omega);simp only[wG,Aq,ai,aL]) [] ⟨rfl,by simp⟩
 have dc:Ij (l,(n:Int),0,[],())=some (.inl (ms,())):=aa;exact ⟨ms,by simp only[CN,dc],ad,al⟩
theorem CJ (l:List oF) (h: ∀x∈l,rn x) (s:ah) (ao:l.length<1000000000000000000): ∃ms,tl (l,s,(5:Int),())=some (ms,())/\ms.length<=5/\ ∀m∈ms,hr m/\kc (m,s,())=some (true,()):=by
 obtain ⟨all,aa,ad,al⟩:=afx l h 15 (by omega) ao;obtain ⟨z,g1,ms,rfl,g2,g3⟩:=bi (b:=ta) (fun i (out:List a6)=>((5:Int),(i:Int),s,out,all,())) all.length (fun i out=>out.length<=5/\ ∀m∈out,hr m/\kc (m,s,())=some (true,())) (fun z=> ∃ms,z=.inl (ms,())/\ms.length<=5/\ ∀m∈ms,hr m/\kc (m,s,())=some (true,())) (by omega)
  (fun i ab out an=>by
   obtain ⟨vJ,sP⟩:=an;have ai:=gw (i:=i) (l:=all) (by omega);have aq:=fm i;have bb:=fK i (by omega);by_cases aZ:out.length<5
   ·left;have bx:(decide ((((List.length out):Int):Int)<(5:Int)))=true:=am (by omega);obtain ⟨r,az⟩:=aog (al all[i] (List.getElem_mem ab)).ok s;have c9: ∀x:a6,(decide ((List.length out+List.length ([x]:List (a6)))*112<=bm))=true:=fun x=>am (by rw[dV];simp;omega)
    cases r with
    |false=>exact ⟨out,⟨vJ,sP⟩,by simp only[ta,vW,ai,aq,bx,aA,aL,b7,bQ,cn ab,az,bb]⟩
    |true=>
     refine ⟨out++[all[i]],⟨by simp;omega,fun m hm=> ?_⟩,by simp only[ta,vW,ai,aq,bx,aA,aL,b7,bQ,cn ab,az,c9,bb]⟩;rcases List.mem_append.1 hm with hm |hm
     ·exact sP m hm
     ·rw[List.mem_singleton.1 hm];exact ⟨al _ (List.getElem_mem ab),az⟩
   ·right;have bx:(decide ((((List.length out):Int):Int)<(5:Int)))=false:=bj (by omega);exact ⟨_,⟨out,rfl,vJ,sP⟩,by simp only[ta,vW,ai,bx,aA,aL]⟩)
  (fun out an=>by
   have ai:=hy all;exact ⟨_,⟨out,rfl,an.1,an.2⟩,by simp only[ta,vW,ai,aL]⟩) [] ⟨by simp,by simp⟩
 have kx:wn (5,0,s,[],all,())=some (.inl (ms,())):=g1;have cV:i64.wrap ((3:Int)*5)=((15:Nat):Int):=by rw[cR (by omega)];rfl
 exact ⟨ms,by simp only[tl,cV,aa,kx],g2,g3⟩
def cl (P:List af) (s:ah):List af:=P.filter fun k=>(!(Op.bytesLess k s.1||decide (k=s.1)))&&bU s k
def partsOf (s:ah) (m:List af):List ah:=((wX (s,m,())).map (·.1)).getD []
theorem xS (P:List af) (s:ah):(cl P s).length<=P.length:=List.length_filter_le _ _
theorem YM (s:ah) (m:List af) (ao:m.length<=100000):wX (s,m,())=some (partsOf s m,())/\(partsOf s m).length=m.length+1:=by
 obtain ⟨l,aa,ad⟩:=anF s m ao;have e:partsOf s m=l:=by unfold partsOf;rw[aa];rfl
 rw[e];exact ⟨aa,ad⟩
theorem aga (n:bq) (s:ah) (bX:n.2.2.1≠[]) (ao:n.2.1.length<=100000):BD (n,s,())=some (partsOf s n.2.1,()):=by
 obtain ⟨aa,ad⟩:=YM s n.2.1 ao;have b8:(decide ((((List.length n.2.2.1):Int):Int)=(0:Int)))=false:=bj (by
  have:=List.length_pos_iff.2 bX;omega)
 simp only[BD,b8,aL,aa]
theorem anR (r:pX) (t:List ak) (pv:List (List af)) (p:bN) (s:ah) (x:eg) (bX:0<pv.length) (ao:(List.getD pv 0 []).length<=100):
  GC r (t,pv,0,p,s,x,[],0,[],())=some (.inl (t,pv,p,s,x,[],0,cl (List.getD pv 0 []) s,())):=by
 obtain ⟨P,je⟩: ∃P,List.getD pv 0 []=P:=⟨_,rfl⟩;rw[je]at ao ⊢;obtain ⟨z,aa,rfl⟩:=bi (b:=wz r) (fun i (e1:List af)=>(t,pv,(i:Int),p,s,x,[],0,e1,())) P.length (fun i e1=>e1=cl (P.take i) s) (fun z=>z=.inl (t,pv,p,s,x,[],0,cl P s,())) (by omega)
  (fun i ab e1 hm=>by
   left;have b8:(decide (((0:Int):Int)<(List.length pv:Int)))=true:=am (by omega);have ai:=gw (i:=i) (l:=P) (by omega);have aq:=fm i;have bb:=fK i (by omega);have iO:e1.length<=i:=by
    rw[hm];have:=xS (P.take i) s;rw[List.length_take]at this;omega
   have c9: ∀k:af,(decide ((List.length e1+List.length ([k]:List af))*16<=bm))=true:=fun k=>am (by rw[dV];simp;omega)
   have au:cl (P.take (i+1)) s=e1++cl [P[i]] s:=by
    rw[eZ ab,hm];unfold cl;rw[List.filter_append]
   simp only[wz,O8,b8,ai,aq,je,aA,b7,bQ,cn ab,Zx,c9,bb];unfold cl at au;simp only[List.filter_cons,List.filter_nil]at au;cases ad:(!(Op.bytesLess P[i] s.1||decide ((P[i]:af)=s.1)))
   ·rw[ad]at au;exact ⟨e1,by unfold cl;rw[au];simp,by simp only[aL]⟩
   ·rw[ad]at au;cases al:bU s P[i]
    ·rw[al]at au;exact ⟨e1,by unfold cl;rw[au];simp,by simp only[aA,aL]⟩
    ·rw[al]at au;exact ⟨e1++[P[i]],by unfold cl;rw[au];simp,by simp only[aA]⟩)
  (fun e1 hm=>by
   have b8:(decide (((0:Int):Int)<(List.length pv:Int)))=true:=am (by omega);have ai:=hy P;rw[List.take_length]at hm;subst hm;exact ⟨_,rfl,by simp only[wz,b8,ai,je,aA,aL]⟩) [] rfl
 exact aa
def oG (ns:List bq) (k:Nat) (s:dY):Prop:= ∃kid,ns[k]? =some kid/\pN (kid,())=some (s,())
abbrev cO:ah:=(([]:af),(([]:af),()))
abbrev wQ:dY:=(((0:Int),((0:Int),())),(((0:Int),((0:Int),())),()))
def gv (ns:List bq) (t:List ak):List (List af)->ah->Nat->Prop
 |[],s,i=>ns[i]? =some (inS s t,[],[],[],[],())
 |P::pv,s,i=> ∃(ks:List Nat) (sums:List dY) (buf:List a6),
   ns[i]? =some ([],cl P s,dM ks,sums,buf,())/\ks.length=(cl P s).length+1/\sums.length=ks.length/\ks.Nodup/\(∀k∈ks,k<i)/\
   buf.length<=5/\(∀m∈buf,hr m/\kc (m,s,())=some (true,()))/\
   ∀j,j<ks.length->gv ns t pv (List.getD (partsOf s (cl P s)) j cO) (ks.getD j 0)/\oG ns (ks.getD j 0) (List.getD sums j wQ)
theorem oG.app {ns:List bq} (l:List bq) {k:Nat} {s:dY} (h:oG ns k s):oG (ns++l) k s:=by
 obtain ⟨n,aa,ad⟩:=h;refine ⟨n,?_,ad⟩;rw[List.getElem?_append_left (List.getElem?_eq_some_iff.1 aa).1];exact aa
theorem gv.app {ns:List bq} {t:List ak} (l:List bq): ∀{pv:List (List af)} {s:ah} {i:Nat},gv ns t pv s i->gv (ns++l) t pv s i
 |[],s,i,h=>by
  show (ns++l)[i]? =_;rw[List.getElem?_append_left (List.getElem?_eq_some_iff.1 h).1];exact h
 |P::pv,s,i,⟨ks,sums,buf,aa,ad,al,aE,aZ,bt,dn,hX⟩=>by
  refine ⟨ks,sums,buf,?_,ad,al,aE,aZ,bt,dn,fun j ay=>⟨gv.app l (hX j ay).1,(hX j ay).2.app l⟩⟩;rw[List.getElem?_append_left (List.getElem?_eq_some_iff.1 aa).1];exact aa
theorem gv.ok {ns:List bq} {t:List ak} (aU:uq t): ∀{pv:List (List af)} {s:ah} {i:Nat},(∀q∈pv,q.length<=5)->gv ns t pv s i->nH ns (pv.length+1) i
 |[],s,i,aN,h=>⟨_,h,.inl ⟨rfl,rfl,by have:=qd s t;have:=aU.len;show (inS s t).length<=1000;omega,fun p aP=>aU.key p (List.mem_filter.1 aP).1⟩⟩
 |P::pv,s,i,aN,⟨ks,sums,buf,aa,ad,al,aE,aZ,bt,dn,hX⟩=>by
  have je:=aN P List.mem_cons_self;have hm:=xS P s;refine ⟨_,aa,.inr ⟨by simp,ks,rfl,ad,by show (cl P s).length<=100;omega,by show sums.length<=1000;omega,bt,fun m hm=>(dn m hm).1.ok,fun k av=> ?_⟩⟩;obtain ⟨j,ay,rfl⟩:=List.mem_iff_getElem.1 av;have:=(hX j ay).1;rw[cn ay]at this;exact gv.ok aU (fun q lU=>aN q (List.mem_cons_of_mem _ lU)) this
theorem gv.lt {ns:List bq} {t:List ak}: ∀{pv:List (List af)} {s:ah} {i:Nat},gv ns t pv s i->i<ns.length
 |[],s,i,h=>(List.getElem?_eq_some_iff.1 h).1
 |P::pv,s,i,⟨ks,sums,buf,aa,_⟩=>(List.getElem?_eq_some_iff.1 aa).1
theorem Ws {α:Type} {l:List α} {x d:α} {j:Nat} (h:j<l.length):List.getD (l++[x]) j d=List.getD l j d:=by
 simp[List.getD,List.getElem?_append_left h]
theorem Wr {α:Type} {l:List α} {x d:α} {j:Nat} (h:j=l.length):List.getD (l++[x]) j d=x:=by
 subst h;simp[List.getD]
def rC:List (List af)->ah->Nat
 |[],_=>1
 |P::pv,s=>1+((partsOf s (cl P s)).map (rC pv)).sum
def uZ (n:bq):Prop:=n.1.length<=1000/\n.2.1.length<=1000/\n.2.2.1.length<=1000/\n.2.2.2.1.length<=1000/\n.2.2.2.2.1.length<=1000
def x6 (r:pX) (t:List ak) (x:eg) (pv:List (List af)) (c:Nat):Prop:=
 ∀(ns:List bq) (s:ah),ns.length+c<=900->
  ∃l i,r ((mk ns (fun _=>1),()),t,s,pv,x,())=some (((mk (ns++l) (fun _=>1),()),((i:Nat):Int),()),())/\l.length<=c/\ns.length<=i/\gv (ns++l) t pv s i/\rC pv s<=l.length/\ ∀n∈l,uZ n
theorem anS (r:pX) (t:List ak) (aU:uq t) (x:eg) (P:List af) (pv:List (List af)) (aN: ∀q∈pv,q.length<=5) (c:Nat) (az:x6 r t x pv c) (ns:List bq) (s:ah) (parts:List ah) (e1:List af) (aP:parts.length<=6) (aQ:ns.length+parts.length*c<=900) (avt:pv.length<=100):
  ∃q:Ha,GD r (t,P::pv,0,(mk ns (fun _=>1),()),s,x,[],0,[],[],parts,e1,[],[],())=some (.inl ((mk (ns++q.l) (fun _=>1),()),s,x,[],0,[],[],e1,dM q.ks,q.sums,()))/\
   q.l.length<=parts.length*c/\q.ks.length=parts.length/\q.sums.length=parts.length/\q.ks.Nodup/\(∀k∈q.ks,k<(ns++q.l).length)/\(∀j,j<parts.length->gv (ns++q.l) t pv (List.getD parts j cO) (q.ks.getD j 0)/\oG (ns++q.l) (q.ks.getD j 0) (List.getD q.sums j wQ))/\(parts.map (rC pv)).sum<=q.l.length/\ ∀n∈q.l,uZ n:=by
 obtain ⟨z,aa,q,rfl,ad⟩:=bi (b:=tf r) (fun i (q:Ha)=>(t,P::pv,(i:Int),(mk (ns++q.l) (fun _=>1),()),s,x,[],0,[],[],parts,e1,dM q.ks,q.sums,())) parts.length
  (fun i q=>q.l.length<=i*c/\q.ks.length=i/\q.sums.length=i/\q.ks.Nodup/\(∀k∈q.ks,k<(ns++q.l).length)/\(∀j,j<i->gv (ns++q.l) t pv (List.getD parts j cO) (q.ks.getD j 0)/\oG (ns++q.l) (q.ks.getD j 0) (List.getD q.sums j wQ))/\((parts.take i).map (rC pv)).sum<=q.l.length/\ ∀n∈q.l,uZ n)
  (fun z=> ∃q:Ha,z=.inl ((mk (ns++q.l) (fun _=>1),()),s,x,[],0,[],[],e1,dM q.ks,q.sums,())/\q.l.length<=parts.length*c/\q.ks.length=parts.length/\q.sums.length=parts.length/\q.ks.Nodup/\(∀k∈q.ks,k<(ns++q.l).length)/\(∀j,j<parts.length->gv (ns++q.l) t pv (List.getD parts j cO) (q.ks.getD j 0)/\oG (ns++q.l) (q.ks.getD j 0) (List.getD q.sums j wQ))/\(parts.map (rC pv)).sum<=q.l.length/\ ∀n∈q.l,uZ n) (by omega)
  (fun i ab q vO=>by
   left;obtain ⟨en,a2,a3,a4,a5,oJ,xD,HO⟩:=vO;have hmul:i*c+c<=parts.length*c:=by
    have:(i+1)*c<=parts.length*c:=Nat.mul_le_mul_right c ab;rw[Nat.add_mul]at this;omega
   have ai:=gw (i:=i) (l:=parts) (by omega);have aq:=fm i;have bb:=fK i (by omega);have bx:(decide (((1:Int):Int)<=(List.length (P::pv):Int))&&decide (((List.length (P::pv):Int):Int)<=(List.length (P::pv):Int)))=true:=by
    rw[am (by simp;omega),am (Int.le_refl _)];rfl
   have c9:List.drop (Int.toNat (1:Int)) (List.take (List.length (P::pv)) (P::pv))=pv:=by
    rw[List.take_length];rfl
   obtain ⟨l,j,b1,b2,b3,gI,gU,jy⟩:=az (ns++q.l) parts[i] (by simp;omega);have ay:=gI.lt;have cV:=JX (r:=fun _=>1) ay;obtain ⟨Gg,gC⟩:=(gI.ok aU aN).sum _ (List.getElem?_eq_getElem ay);have iJ:(decide ((List.length (dM q.ks)+List.length ([((j:Nat):Int)]:List (Int)))*8<=bm))=true:=am (by rw[iK,dV];simp;omega);have k7: ∀y:dY,(decide ((List.length q.sums+List.length ([y]:List (dY)))*32<=bm))=true:=fun y=>am (by rw[dV];simp;omega)
   have o4:dM q.ks++[((j:Nat):Int)]=dM (q.ks++[j]):=by simp[dM]
   refine ⟨⟨q.l++l,q.ks++[j],q.sums++[Gg.1]⟩,⟨by simp only[List.length_append];rw[Nat.add_mul];omega,by simp[a2],by simp[a3],?_,?_,?_,?_,fun n aQ=>(List.mem_append.1 aQ).elim (HO n) (jy n)⟩,?_⟩
   ·rw[List.nodup_append];refine ⟨a4,by simp,?_⟩;intro a aR b ag;have:=a5 a aR;simp only[List.mem_singleton]at ag;omega
   ·intro k av;rw[<-List.append_assoc];rcases List.mem_append.1 av with av |av
    ·have:=a5 k av;rw[List.length_append];omega
    ·rw[List.mem_singleton.1 av];exact ay
   ·intro k av;rw[<-List.append_assoc];show gv _ t pv _ (List.getD (q.ks++[j]) k 0)/\oG _ (List.getD (q.ks++[j]) k 0) (List.getD (q.sums++[Gg.1]) k wQ);rcases Nat.lt_or_ge k i with h |h
    ·rw[Ws (by omega),Ws (by omega)];exact ⟨(oJ k h).1.app l,(oJ k h).2.app l⟩
    ·have aqP:k=i:=by omega
     subst aqP;rw[Wr (by omega),Wr (by omega),cn ab];exact ⟨gI,_,List.getElem?_eq_getElem ay,gC⟩
   ·rw[eZ ab,List.map_append,List.sum_append];simp only[List.map_cons,List.map_nil,List.sum_cons,List.sum_nil,List.length_append];omega
   ·have LP:pN ((ns++q.l++l)[j],())=some (Gg.1,()):=gC;show tf r _=some (Sum.inl (t,P::pv,((i+1:Nat):Int),(mk (ns++(q.l++l)) (fun _=>1),()),s,x,[],0,[],[],parts,e1,dM (q.ks++[j]),q.sums++[Gg.1],()));rw[show ns++(q.l++l)=ns++q.l++l from (List.append_assoc _ _ _).symm];simp only[tf,ai,aq,bx,c9,aA,b7,bQ,cn ab,b1,cV,iJ,LP,k7,bb,o4])
  (fun q vO=>by
   have ai:=hy parts;obtain ⟨en,a2,a3,a4,a5,oJ,xD,HO⟩:=vO;rw[List.take_length]at xD;exact ⟨_,⟨q,rfl,en,a2,a3,a4,a5,oJ,xD,HO⟩,by simp only[tf,ai,aL]⟩) ⟨[],[],[]⟩ ⟨by simp,rfl,rfl,List.nodup_nil,by simp,fun j ay=>by omega,by simp,by simp⟩
 refine ⟨q,?_,ad⟩;have dc:=aa;simp only[List.append_nil]at dc;exact dc
structure Cq (x:eg):Prop where
 b0:(∀y∈x.2.1.1,rn y)/\x.2.1.1.length<1000000000000000000
 b1:(∀y∈x.2.1.2.1,rn y)/\x.2.1.2.1.length<1000000000000000000
 b2:(∀y∈x.2.1.2.2.1,rn y)/\x.2.1.2.2.1.length<1000000000000000000
 b3:(∀y∈x.2.1.2.2.2.1,rn y)/\x.2.1.2.2.2.1.length<1000000000000000000
theorem anQ (r:pX) (x:eg) (aw:Cq x) (w:Nat) (hw:w<4) (p:bN) (s:ah) (piv:List af) (kids:List Int) (sums:List dY):
  ∃buf:List a6,buf.length<=5/\(∀m∈buf,hr m/\kc (m,s,())=some (true,()))/\AH r ((w:Int),p,s,x,[],0,[],[],piv,kids,sums,())=th r (p,[],0,[],piv,kids,sums,buf,()):=by
 obtain ⟨f0,a0,en,a2⟩:=CJ _ aw.b0.1 s aw.b0.2;obtain ⟨f1,Ea,a7,aY⟩:=CJ _ aw.b1.1 s aw.b1.2;obtain ⟨f2,d0,d1,d2⟩:=CJ _ aw.b2.1 s aw.b2.2;obtain ⟨f3,g0,g1,g2⟩:=CJ _ aw.b3.1 s aw.b3.2;have ai:=fm w;have aq:(decide ((w:Int)<4))=true:=am (by omega);simp only[AH,ai,aq,aA,b7,bQ]
 match w,hw with
 |0,_=>exact ⟨f0,en,a2,by simp only[a0];rfl⟩
 |1,_=>exact ⟨f1,a7,aY,by simp only[Ea];rfl⟩
 |2,_=>exact ⟨f2,d1,d2,by simp only[d0];rfl⟩
 |3,_=>exact ⟨f3,g1,g2,by simp only[g0];rfl⟩
theorem alJ (r:pX) (t:List ak) (x:eg) (aU:uq t):x6 (s9 r) t x [] 1:=by
 intro ns s aQ;have b8:(decide ((((List.length ([]:List (List af))):Int):Int)>(0:Int)))=false:=rfl;have ai:(decide ((((List.length ([]:List (List af))):Int):Int)=(0:Int)))=true:=rfl;have aq:=apg t s (by have:=aU.len;omega);have bb:=ZE (ns:=ns) (n:=(inS s t,[],[],[],[],())) (ks:=[]) rfl (by simp) List.nodup_nil (by simp) (by omega);have bx:mk (ns++[(inS s t,[],[],[],[],())]) (fun j=>if j∈([]:List Nat) then 2 else 1)=mk (ns++[(inS s t,[],[],[],[],())]) (fun _=>1):=xT fun j _=>by simp
 rw[bx]at bb;refine ⟨[(inS s t,[],[],[],[],())],ns.length,?_,by simp,Nat.le_refl _,?_,by simp[rC],fun n aQ=> ?_⟩
 ·simp only[s9,b8,aL,GB,ai,aA,aq,bb]
 ·show (ns++[_])[ns.length]? =_;simp
 ·rw[List.mem_singleton.1 aQ];have:=qd s t;have:=aU.len;exact ⟨by show (inS s t).length<=1000;omega,by simp,by simp,by simp,by simp⟩
theorem alK (r:pX) (t:List ak) (aU:uq t) (x:eg) (aw:Cq x) (P:List af) (pv:List (List af)) (je:P.length<=5) (aN: ∀q∈pv,q.length<=5) (lT:pv.length<=100) (c:Nat) (az:x6 r t x pv c):x6 (s9 r) t x (P::pv) (1+6*c):=by
 intro ns s aQ;have b8:(decide ((((List.length (P::pv)):Int):Int)>(0:Int)))=true:=am (by simp);have ai:(decide ((((List.length (P::pv)):Int):Int)=(0:Int)))=false:=bj (by simp;omega);have c2:=anR r t (P::pv) (mk ns (fun _=>1),()) s x (by simp) (by show P.length<=100;omega);have bH:List.getD (P::pv) 0 []=P:=rfl;rw[bH]at c2;have hm:(cl P s).length<=5:=Nat.le_trans (xS P s) je;obtain ⟨e1,sN⟩: ∃m,cl P s=m:=⟨_,rfl⟩;rw[sN]at c2 hm;have aq:i64.wrap (((List.length e1):Int)+1)=((e1.length+1:Nat):Int):=by rw[cR (by omega)];omega
 have bb:(decide ((0:Int)<=((e1.length+1:Nat):Int))&&decide (((e1.length+1:Nat):Int)<=((e1.length+1:Nat):Int))&&decide (((e1.length+1:Nat):Int)*(8:Int)<=(bm:Int)))=true:=by
  rw[am (by omega),am (by omega),am (by rw[dV];omega)];rfl
 have gD:=aga ([],e1,List.replicate (e1.length+1) (0:Int),[],[],()) s (by simp[List.replicate_succ]) (by show e1.length<=100000;omega);have gD:BD (([],e1,List.replicate (e1.length+1) (0:Int),[],[],()),s,())=some (partsOf s e1,()):=gD;have hB:=(YM s e1 (by omega)).2;obtain ⟨parts,NA⟩: ∃p,partsOf s e1=p:=⟨_,rfl⟩;rw[NA]at gD hB;have hmul:parts.length*c<=6*c:=Nat.mul_le_mul_right c (by omega);obtain ⟨q,bh,bZ,da,c4,fh,gq,lq,wJ,asY⟩:=anS r t aU x P pv aN c az ns s parts e1 (by omega) (by omega) lT;have fin: ∀w:Nat,w<4-> ∃l i,AH r ((w:Int),(mk (ns++q.l) (fun _=>1),()),s,x,[],0,[],[],e1,dM q.ks,q.sums,())=some (((mk (ns++l) (fun _=>1),()),((i:Nat):Int),()),())/\l.length<=1+6*c/\ns.length<=i/\gv (ns++l) t (P::pv) s i/\rC (P::pv) s<=l.length/\ ∀n∈l,uZ n:=by
  intro w hw;obtain ⟨buf,b1,b2,b3⟩:=anQ r x aw w hw (mk (ns++q.l) (fun _=>1),()) s e1 (dM q.ks) q.sums;have gI:=aoB r (ns++q.l) q.ks gq fh (by simp;omega) (by omega) e1 q.sums buf;refine ⟨q.l++[([],e1,dM q.ks,q.sums,buf,())],(ns++q.l).length,?_,by simp;omega,by simp,?_,?_,?_⟩
  ·rw[b3,gI,List.append_assoc]
  ·rw[<-List.append_assoc];refine ⟨q.ks,q.sums,buf,by rw[sN,List.getElem?_append_right (Nat.le_refl _)];simp,by rw[sN];omega,by omega,fh,gq,b1,b2,fun j ay=> ?_⟩;rw[sN,NA];exact ⟨(lq j (by omega)).1.app _,(lq j (by omega)).2.app _⟩
  ·show 1+_<=_;rw[sN,NA];simp;omega
  ·intro n aQ;rcases List.mem_append.1 aQ with aQ |aQ
   ·exact asY n aQ
   ·rw[List.mem_singleton.1 aQ];exact ⟨by simp,by show e1.length<=1000;omega,by show (dM q.ks).length<=1000;rw[iK];omega,by show q.sums.length<=1000;omega,by show buf.length<=1000;omega⟩
 have hw:Int.tmod ((List.length s.1):Int) 3=((s.1.length%3:Nat):Int):=by
  rw[Int.tmod_eq_emod_of_nonneg (by omega)];omega
 have bx:i64.wrap ((1:Int)+((s.1.length%3:Nat):Int))=((1+s.1.length%3:Nat):Int):=by rw[cR (by omega)];omega
 simp only[s9,b8,aA,c2,GB,ai,aL,aq,bb,bQ,gD,bh,hw,bx];cases (!(aD.eqb ac s (([]:af),(([]:af),()))))
 ·exact fin 0 (by omega)
 ·exact fin _ (by omega)
theorem VU (t:List ak) (x:eg) (aU:uq t) (aw:Cq x): ∀(pv:List (List af)) (n:Nat),pv.length+1<=n->pv.length<=100->(∀q∈pv,q.length<=5)->x6 (wg n) t x pv (cap pv.length)
 |_,0,h,_,_=>by omega
 |[],n+1,_,_,_=>alJ (wg n) t x aU
 |P::pv,n+1,h,aa,ad=>alK (wg n) t aU x aw P pv (ad P List.mem_cons_self) (fun q aN=>ad q (List.mem_cons_of_mem _ aN)) (by simp at aa;omega) (cap pv.length) (VU t x aU aw pv n (by simp at h;omega) (by simp at aa;omega) (fun q aN=>ad q (List.mem_cons_of_mem _ aN)))
structure yA (x:eg):Prop where
 xok:Cq x
 t:(∀y∈x.1,tB y)/\x.1.length<1000000000000000000
 w:0<=x.2.2.1/\x.2.2.1<256
def nN (x:eg):List ak:=mn (x.1.take 40)
def kn (x:eg):List (List af):=List.getD lA (x.2.2.1.toNat%4) []
theorem Lu (x:eg):kn x∈lA:=by
 have hw:x.2.2.1.toNat%4<lA.length:=Nat.mod_lt _ (by decide);unfold kn;rw[cn hw];exact List.getElem_mem hw
theorem KI: ∀pv∈lA,pv.length<=2/\ ∀q∈pv,q.length<=5:=by decide
theorem aoL (x:eg) (h:yA x): ∃ns root,CO (x,())=some (((mk ns (fun _=>1),()),(((root:Nat):Int),(rz x.2.2.1,()))),())/\gv ns (nN x) (kn x) cO root/\ns.length<=43/\rC (kn x) cO<=ns.length/\ ∀n∈ns,uZ n:=by
 have b8:=anv x.1 h.t.1 h.t.2;have aU:=afV x.1 h.t.1;obtain ⟨dd,cM⟩:=KI _ (Lu x);have ai:i64.wrap (Int.tmod x.2.2.1 (4:Int))=((x.2.2.1.toNat%4:Nat):Int):=by
  have:=h.w;rw[Int.tmod_eq_emod_of_nonneg this.1,cR (by omega)];omega
 have NW:x.2.2.1.toNat%4<4:=Nat.mod_lt _ (by decide);have aB:cap (kn x).length<=43:=by
  match (kn x).length,dd with
  |0,_=>decide
  |1,_=>decide
  |2,_=>decide
 obtain ⟨l,i,b1,b2,b3,gI,gU,jy⟩:=VU (nN x) x aU h.xok (kn x) jV (by rw[jM];omega) (by omega) cM [] cO (by simp;omega);have ZQ:CA ((([]:List (cX)),()),nN x,cO,kn x,x,())=some (((mk ([]++l) (fun _=>1),()),((i:Nat):Int),()),()):=b1;have aq:(decide ((0:Int)<=((x.2.2.1.toNat%4:Nat):Int)))=true:=am (by omega);have bb:(decide (((x.2.2.1.toNat%4:Nat):Int)<(List.length lA:Int)))=true:=am (by have:lA.length=4:=rfl;omega);refine ⟨[]++l,i,?_,gI,by simp;omega,by simpa using gU,by simpa using jy⟩;unfold kn nN at ZQ;rw[aoj];simp only[b8,ai,aq,bb,b7,aA,bQ,ZQ]
def afX (k:af):Nat:=match BM (k,()) with
 |some (p,e,_)=>bif !decide (e=0) then 0 else bif decide (p.2.1=1) then 1 else bif decide (p.2.1=4) then 0 else 2
 |none=>9
def Rd (k:af):Nat:=match tt (k,()) with
 |some (p,e,_)=>bif !decide (e=0) then 0 else bif decide (p.2.1=1) then 1 else bif decide (p.2.1=2) then 2 else bif decide (p.2.1=3) then 2 else 0
 |none=>9
def aeY (p:ak):Prop:=afX p.1=Rd p.1/\Rd p.1<=2/\p.2.1.length<=64
def aeV (s:dY):Prop:=(0<=s.1.1/\s.1.1<=s.1.2.1/\s.1.2.1<=1000000000000000)/\0<=s.2.1.1/\s.2.1.1<=s.2.1.2.1/\s.2.1.2.1<=1000000000000000
theorem hr.form {m:a6} (h:hr m): ∃a k v f t s n,m=kb a k v f t s n/\(0<=a/\a<6)/\(0<=n/\n<8)/\s.1.length<=200/\s.2.1.length<=200:=by
 obtain ⟨x,⟨aw,-,aa,ad⟩,e⟩:=h;obtain ⟨k,v,f,t,s,aq,-,-,-,dd,cM⟩:=Kl x aw;have bx:m=_:=congrArg Prod.fst (Option.some.inj (e.symm.trans aq));have al:=aw.1;refine ⟨_,k,v,f,_,s,_,bx,?_,?_,dd,cM⟩
 ·rw[Int.tmod_eq_emod_of_nonneg al.1];omega
 ·rw[Int.tmod_eq_emod_of_nonneg aa,cR (by omega)];omega
end D
open Go Go.X
namespace D
abbrev bu:ak->af:=fun p=>p.1
theorem Zh (p:ak): ∀t:List ak,cg bu t->cg bu (ins p t)
 |[],_=>List.pairwise_singleton _ _
 |x::t,h=>by
  unfold ins;cases ag:Op.bytesLess x.1 p.1 with
  |true=>
   rw[aA];refine List.pairwise_cons.2 ⟨fun y bf=> ?_,Zh p t h.tail⟩;rcases Ld p y t bf with rfl |bf
   ·exact ag
   ·exact h.head y bf
  |false=>
   rw[aL];refine List.pairwise_cons.2 ⟨fun y bf=> ?_,List.Pairwise.filter _ h⟩;obtain ⟨aa,ad⟩:=List.mem_filter.1 bf;have cf:y.1≠p.1:=by simpa using ad
   have qU:Op.bytesLess y.1 x.1=false:=by
    rcases List.mem_cons.1 aa with rfl |aa
    ·exact gJ _
    ·exact hG (h.head y aa)
   show Op.bytesLess p.1 y.1=true;rcases hg p.1 y.1 with al |al |al
   ·exact al
   ·exact absurd al.symm cf
   ·
    rcases hg p.1 x.1 with aE |aE |aE
    ·rw[e5 al aE]at qU;cases qU
    ·rw[aE]at al;rw[al]at qU;cases qU
    ·rw[aE]at ag;cases ag
theorem aos (l:List fa):cg bu (mn l):=by
 have key: ∀(l:List fa) (t:List ak),cg bu t->cg bu (l.foldl (fun t x=>ins (nC x) t) t):=by
  intro l
  induction l with
  |nil=>intro t h;exact h
  |cons x l aO=>intro t h;exact aO _ (Zh _ _ h)
 exact key l [] List.Pairwise.nil
structure cA (t:List ak):Prop where
 len:t.length<=1000
 srt:cg bu t
 key: ∀p∈t,1<=p.1.length/\p.1.length<=65535
 val: ∀p∈t,p.2.1.length<=64
 stamp: ∀p∈t,0<=p.2.2.1/\p.2.2.1<=1000000000
 chg: ∀p∈t,aeY p
theorem cA.inS {t:List ak} (h:cA t) (s:ah):cA (inS s t):=
 ⟨Nat.le_trans (qd s t) h.len,List.Pairwise.filter _ h.srt,fun p aP=>h.key p (List.mem_filter.1 aP).1,fun p aP=>h.val p (List.mem_filter.1 aP).1,fun p aP=>h.stamp p (List.mem_filter.1 aP).1,fun p aP=>h.chg p (List.mem_filter.1 aP).1⟩
theorem pP: ∀(t:aD) (x:t.den),aD.eqb t x x=true
 | .bool,x=>by simp[aD.eqb]
 | .int _,x=>by simp[aD.eqb]
 | .str,x=>by simp[aD.eqb]
 | .pair a b,x=>by simp[aD.eqb,pP a,pP b]
 | .list _,_=>rfl
 | .unit,_=>rfl
 | .opq,_=>rfl
theorem aly {s:ah} (h:mP s):j0 (s,())=some (false,()):=by
 unfold j0;rcases h with h |h
 ·simp only[h,cK,dt,aL]
 ·have ad:=hG h;have al: ¬s.2.1=s.1:=fun e=>by rw[e,gJ]at h;cases h
  simp only[ad,bj al,Bool.or_false];cases (!decide (s.2.1=([]:af)))<;>rfl
theorem u0 {a b c:Int} (aa:b<=a) (ad:a<=c):oN (a,b,c,())=some (true,()):=by
 simp only[oN,am aa,am ad,aA]
theorem apd (a b:af):oZ (a,b,())=some (bI a b,()):=by
 unfold bI;by_cases h:b.length<=a.length
 ·have a7:((a.length:Int)>=(b.length:Int)):=by omega
  have aY:((0:Int)<=(b.length:Int)):=by omega
  have c3:((b.length:Int)<=(a.length:Int)):=by omega
  simp only[oZ,a7,aY,c3,am h,am,aA,b7,bQ,Bool.true_and,List.drop_zero,Int.toNat_zero]
 ·have a7: ¬((a.length:Int)>=(b.length:Int)):=by omega
  simp only[oZ,a7,bj h,bj,aL,Bool.false_and,not_false_eq_true]
theorem XB: ∀p∈eM,1<=p.length/\p.length<=200:=by decide
theorem Yx {f t:af} (aJ:f∈eM) (aU:t∈eM) (h:bI f t=false/\bI t f=false):xM (f,t,())=some (true,()):=by
 obtain ⟨en,a2⟩:=XB f aJ;obtain ⟨b1,b2⟩:=XB t aU;have ai:=u0 (a:=(f.length:Int)) (b:=1) (c:=200) (by omega) (by omega);have aq:=u0 (a:=(t.length:Int)) (b:=1) (c:=200) (by omega) (by omega);simp only[xM,ai,aq,aA,sY,apd,h.1,h.2,dr]
theorem Za {s:ah} (h:mP s) (aa:s.1.length<=200) (ad:s.2.1.length<=200):xU (s,())=some (true,()):=by
 have e:(decide ((if ((List.length s.1:Int))<((List.length s.2.1:Int)) then ((List.length s.2.1):Int) else ((List.length s.1):Int))<=(65535:Int)))=true:=am (by split<;>omega);simp only[xU,aly h,dr,aA,e]
theorem tT: ∀k∈jk,1<=k.length/\k.length<=100:=by
 have hlen:jk.all (fun k=>decide (1<=k.length)&&decide (k.length<=100))=true:=by kernel_rfl
 intro k av;have:=List.all_eq_true.1 hlen k av;simpa using this
theorem uI {k:af} (h:k∈jk):oo (k,())=some ((k,(k++[0],())),())/\mK (k,())=some ((k,(k++[0],())),()):=by
 have:=(tT k h).2;have e:(decide (List.length k+List.length ([0]:af)<=bm))=true:=am (by rw[dV];simp;omega);exact ⟨by simp only[oo,e,aA],by simp only[mK,e,aA]⟩
theorem aoi {m:a6} (hm:hr m):oh (m,())=some (true,())/\ ∃R W:List ah,pL (m,())=some (R,())/\mI (m,())=some (R,())/\oc (m,())=some (W,())/\kr (m,())=some (W,())/\R.length<=2/\W.length<=2:=by
 have cJ:=hm.ok;obtain ⟨q,k,v,f,t,s,n,rfl,aN,aQ,j6,pj⟩:=hm.form;have LM:q=0\/q=1\/q=2\/q=3\/q=4\/q=5:=by omega
 rcases LM with rfl |rfl |rfl |rfl |rfl |rfl
 ·have ji:kb 0 k v f t s n=(1,k,v,([],[],()),[],[],n,()):=rfl;rw[ji]at cJ ⊢;have av:k∈jk:=cJ.key (.inl rfl);have aX:v.length<=10:=cJ.val rfl;have ai:=u0 (a:=(k.length:Int)) (b:=1) (c:=65535) (by have:=(tT k av).1;omega) (by have:=(tT k av).2;omega);have aq:=u0 (a:=n) (b:=0) (c:=1000000000) (by omega) (by omega);have bb:(decide ((((List.length v):Int):Int)<=(64:Int)))=true:=am (by omega);have f4:(decide ((1:Int)=4))=false:=rfl;have f5:(decide ((1:Int)=5))=false:=rfl;have f6:(decide ((1:Int)=6))=false:=rfl;exact ⟨by simp only[oh,Ic,cK,aA,ai,bb,aq,IZ,pP],[],[(k,(k++[0],()))],by simp only[pL,Ib,cK,aA],by simp only[mI,pw,f4,f5,f6,aL],by simp only[oc,PZ,cK,aA,(uI av).1],by simp only[kr,mq,cK,aA,(uI av).2],by simp,by simp⟩
 ·have ji:kb 1 k v f t s n=(2,k,[],([],[],()),[],[],0,()):=rfl;rw[ji]at cJ ⊢;have av:k∈jk:=cJ.key (.inr rfl);have ai:=u0 (a:=(k.length:Int)) (b:=1) (c:=65535) (by have:=(tT k av).1;omega) (by have:=(tT k av).2;omega);have f1:(decide ((2:Int)=1))=false:=rfl;have f4:(decide ((2:Int)=4))=false:=rfl;have f5:(decide ((2:Int)=5))=false:=rfl;have f6:(decide ((2:Int)=6))=false:=rfl;exact ⟨by simp only[oh,H7,f1,cK,aA,aL,ai,IX,pP],[],[(k,(k++[0],()))],by simp only[pL,H6,f1,cK,aA,aL],by simp only[mI,pw,f4,f5,f6,aL],by simp only[oc,PT,f1,cK,aA,aL,(uI av).1],by simp only[kr,mq,f1,cK,aA,aL,(uI av).2],by simp,by simp⟩
 ·have ji:kb 2 k v f t s n=(3,[],[],s,[],[],0,()):=rfl;rw[ji]at cJ ⊢;have au:mP s:=cJ.span (.inl rfl);have ai:=Za au j6 pj;have f1:(decide ((3:Int)=1))=false:=rfl;have f2:(decide ((3:Int)=2))=false:=rfl;have f4:(decide ((3:Int)=4))=false:=rfl;have f5:(decide ((3:Int)=5))=false:=rfl;have f6:(decide ((3:Int)=6))=false:=rfl;exact ⟨by simp only[oh,PW,f1,f2,cK,aA,aL,ai,H8,pP],[],[s],by simp only[pL,PV,f1,f2,cK,aA,aL],by simp only[mI,pw,f4,f5,f6,aL],by simp only[oc,Ps,f1,f2,cK,aA,aL],by simp only[kr,mq,f1,f2,f4,f5,aL],by simp,by simp⟩
 ·have ji:kb 3 k v f t s n=(4,[],[],([],[],()),f,t,0,()):=rfl;rw[ji]at cJ ⊢;have aJ:=cJ.from_ (.inl rfl);have aU:=cJ.to_ (.inl rfl);have ai:=Yx aJ aU (cJ.apart (.inl rfl));obtain ⟨gD,hB,-⟩:=kM f (j8 f aJ);obtain ⟨ar,aM,-⟩:=kM t (j8 t aU);have f1:(decide ((4:Int)=1))=false:=rfl;have f2:(decide ((4:Int)=2))=false:=rfl;have f3:(decide ((4:Int)=3))=false:=rfl;exact ⟨by simp only[oh,PY,f1,f2,f3,cK,aA,aL,ai,H9,pP],[c6 f],[c6 f,c6 t],by simp only[pL,PX,f1,f2,f3,cK,aA,aL,gD],by simp only[mI,pw,cK,aA,hB],by simp only[oc,Pt,f1,f2,f3,cK,aA,aL,gD,ar],by simp only[kr,mq,f1,f2,cK,aA,aL,hB,aM],by simp,by simp⟩
 ·have ji:kb 4 k v f t s n=(5,[],[],([],[],()),f,t,0,()):=rfl;rw[ji]at cJ ⊢;have aJ:=cJ.from_ (.inr rfl);have aU:=cJ.to_ (.inr rfl);have ai:=Yx aJ aU (cJ.apart (.inr rfl));obtain ⟨gD,hB,-⟩:=kM f (j8 f aJ);obtain ⟨ar,aM,-⟩:=kM t (j8 t aU);have f1:(decide ((5:Int)=1))=false:=rfl;have f2:(decide ((5:Int)=2))=false:=rfl;have f3:(decide ((5:Int)=3))=false:=rfl;have f4:(decide ((5:Int)=4))=false:=rfl;exact ⟨by simp only[oh,Pr,f1,f2,f3,f4,cK,aA,aL,ai,PS,pP],[c6 f],[c6 t],by simp only[pL,Pq,f1,f2,f3,f4,cK,aA,aL,gD],by simp only[mI,pw,f4,cK,aA,aL,hB],by simp only[oc,Pb,f1,f2,f3,f4,cK,aA,aL,ar],by simp only[kr,mq,f1,f2,f4,cK,aA,aL,aM],by simp,by simp⟩
 ·have ji:kb 5 k v f t s n=(6,[],[],s,[],[],n,()):=rfl;rw[ji]at cJ ⊢;have au:mP s:=cJ.span (.inr rfl);have ai:=Za au j6 pj;have aq:=u0 (a:=n) (b:=0) (c:=1000000000) (by omega) (by omega);have f1:(decide ((6:Int)=1))=false:=rfl;have f2:(decide ((6:Int)=2))=false:=rfl;have f3:(decide ((6:Int)=3))=false:=rfl;have f4:(decide ((6:Int)=4))=false:=rfl;have f5:(decide ((6:Int)=5))=false:=rfl;exact ⟨by simp only[oh,Pw,f1,f2,f3,f4,f5,cK,aA,aL,ai,aq,P0,pP],[s],[s],by simp only[pL,Pv,f1,f2,f3,f4,f5,cK,aA,aL],by simp only[mI,pw,f4,f5,cK,aA,aL],by simp only[oc,Pc,f1,f2,f3,f4,f5,cK,aA,aL],by simp only[kr,mq,f1,f2,f4,f5,aL],by simp,by simp⟩
theorem al1 {m:a6} {s:ah} {R W:List ah} (kz:mI (m,())=some (R,())) (lL:kr (m,())=some (W,())) (az:R.length<=2) (hw:W.length<=2) (h:kc (m,s,())=some (true,())): ∀x∈R++W,n9 (s,x,())=some (true,()):=by
 have ai:(decide ((List.length ([]:List (ah))+List.length R)*32<=bm))=true:=am (by rw[dV];simp;omega);have aq:(decide ((List.length (([]:List (ah))++R)+List.length W)*32<=bm))=true:=am (by rw[dV];simp;omega);obtain ⟨l,ao⟩: ∃l,([]++R)++W=l:=⟨_,rfl⟩;have avl:l.length<=4:=by rw[<-ao];simp;omega
 have gM:R++W=l:=by rw[<-ao];rfl
 obtain ⟨z,aa,ad⟩:=bi (b:=qZ) (fun i (_:Unit)=>((i:Int),s,l,())) l.length (fun i _=> ∀j (ay:j<l.length),j<i->n9 (s,l[j],())=some (true,())) (fun z=>z=.inl (false,())\/(z=.inr ()/\ ∀x∈l,n9 (s,x,())=some (true,()))) (by omega)
  (fun i ab _ ay=>by
   have ai:=gw (i:=i) (l:=l) (by omega);have aq:=fm i;have bb:=fK i (by omega);obtain ⟨r,az⟩:=Xt s l[i];simp only[qZ,ai,aq,aA,b7,bQ,cn ab,az,bb];cases r
   ·exact .inr ⟨_,.inl rfl,rfl⟩
   ·refine .inl ⟨(),fun j fP a8=> ?_,rfl⟩;rcases Nat.lt_or_ge j i with h |h
    ·exact ay j fP h
    ·have:j=i:=by omega
     subst this;exact az)
  (fun _ ay=>by
   have ai:=hy l;refine ⟨_,.inr ⟨rfl,fun x aw=> ?_⟩,by simp only[qZ,ai,aL]⟩;obtain ⟨j,fP,rfl⟩:=List.mem_iff_getElem.1 aw;exact ay j fP fP) () (fun j ay h=>by omega)
 have dc:GN (0,s,l,())=some z:=aa;rcases ad with rfl |⟨rfl,al⟩
 ·simp only[kc,kz,lL,ai,aq,aA,ao,dc]at h;cases h
 ·intro x aw;rw[gM]at aw;exact al x aw
def aeZ (ps:List af) (s:ah):Prop:= ∀i (h:i<ps.length),Op.bytesLess (List.getD (s.1::ps) i []) ps[i]=true/\(s.2.1=[]\/Op.bytesLess ps[i] s.2.1=true)
def qJ:List (List af)->ah->Bool
 |[],_=>true
 |P::pv,s=>(match pO (s,cl P s,()) with
   |some (l,_)=>decide (l=partsOf s (cl P s))
   |none=>false)&&(partsOf s (cl P s)).all (qJ pv)
theorem ao5: ∀pv∈lA,qJ pv cO=true:=by
 have h:lA.all (fun pv=>qJ pv cO)=true:=by kernel_rfl
 exact fun pv aP=>List.all_eq_true.1 h pv aP
theorem anN: ∀pv∈lA,∀P∈pv,P.Pairwise fun a b=>Op.bytesLess a b=true:=by decide
theorem amE {P:List af} {pv:List (List af)} {s:ah} (h:qJ (P::pv) s=true):pO (s,cl P s,())=some (partsOf s (cl P s),())/\ ∀q∈partsOf s (cl P s),qJ pv q=true:=by
 rw[qJ,bB]at h;obtain ⟨aa,ad⟩:=h;refine ⟨?_,fun q aN=>List.all_eq_true.1 ad q aN⟩;cases e:pO (s,cl P s,()) with
 |none=>rw[e]at aa;cases aa
 |some r=>
  obtain ⟨l,u⟩:=r;rw[e]at aa;have:l=partsOf s (cl P s):=of_decide_eq_true aa;rw[this]
theorem alf {n:bq} {s:ah} {l:List ah} (bX:n.2.2.1≠[]) (h:pO (s,n.2.1,())=some (l,())):BL (n,s,())=some (l,()):=by
 have b8:(decide ((((List.length n.2.2.1):Int):Int)=(0:Int)))=false:=bj (by
  have:=List.length_pos_iff.2 bX;omega)
 simp only[BL,b8,aL,h]
theorem afw {ks:List Nat} (h:0<ks.length):dM ks≠[]:=by
 intro e;have:=congrArg List.length e;rw[iK,List.length_nil]at this;omega
theorem gv.set {ns:List bq} {t:List ak} {r:Nat} (N:bq): ∀{pv:List (List af)} {s:ah} {i:Nat},i<r->gv ns t pv s i->gv (ns.set r N) t pv s i
 |[],s,i,ab,h=>by
  show (ns.set r N)[i]? =_;rw[List.getElem?_set_ne (by omega)];exact h
 |P::pv,s,i,ab,⟨ks,sums,buf,aa,ad,al,aE,aZ,bt,dn,hX⟩=>by
  refine ⟨ks,sums,buf,?_,ad,al,aE,aZ,bt,dn,fun j ay=> ?_⟩
  ·rw[List.getElem?_set_ne (by omega)];exact aa
  ·have av:ks.getD j 0<i:=by
    rw[cn ay];exact aZ _ (List.getElem_mem ay)
   obtain ⟨a7,n,aY,c3⟩:=hX j ay;exact ⟨a7.set N (by omega),n,by rw[List.getElem?_set_ne (by omega)];exact aY,c3⟩
structure auQ (ns:List bq) (t:List ak) (P:List af) (pv:List (List af)) (root:Nat) (ks:List Nat) (sums:List dY) (buf:List a6):Prop where
 n:ns[root]? =some ([],cl P cO,dM ks,sums,buf,())
 kl:ks.length=(cl P cO).length+1
 sl:sums.length=ks.length
 ml:(cl P cO).length<=5
 piv:aeZ (cl P cO) cO
 lt: ∀k∈ks,k<root
 r:root<900
 ins: ∀q∈sums,aeV q
 bl:buf.length<=5
 buf: ∀m∈buf,hr m/\kc (m,cO,())=some (true,())
 kid: ∀j,j<ks.length->gv ns t pv (List.getD (partsOf cO (cl P cO)) j cO) (ks.getD j 0)/\oG ns (ks.getD j 0) (List.getD sums j wQ)
 sp:pO (cO,cl P cO,())=some (partsOf cO (cl P cO),())
 pl:(partsOf cO (cl P cO)).length=(cl P cO).length+1
 good: ∀q∈partsOf cO (cl P cO),qJ pv q=true
section
variable {ns:List bq} {t:List ak} {P:List af} {pv:List (List af)} {root:Nat} {ks:List Nat} {sums:List dY} {buf:List a6}
end
theorem DB {x y:af}:(k4 x y<0)↔Op.bytesLess x y=true:=by
 unfold k4;split
 ·simp[*]
 ·rename_i h;split
  ·rename_i he;subst he;simp[gJ]
  ·simp[h]
theorem apq (l:List ak) (k:af) (au:cg bu l) (ao:l.length<10000000000000):
  D9 (l,k,())=some ((cD bu k l:Int),eB (key:=bu) k l,()):=by
 have hle:=mU (key:=bu) k l;obtain ⟨r,aa,ad⟩:=xK (b:=D8) (fun s=>(s.2.2.2.2.1-s.2.2.2.1).toNat)
  (fun s=> ∃I J:Nat,s=(l,k,(l.length:Int),(I:Int),(J:Int),())/\I<=J/\J<=l.length/\(∀(m:Nat) (h:m<l.length),m<I->Op.bytesLess (l[m]).1 k=true)/\(∀(m:Nat) (h:m<l.length),J<=m->Op.bytesLess (l[m]).1 k=false))
  (fun r=>r=.inl (l,k,(l.length:Int),(cD bu k l:Int),()))
  (fun s ab=>by
   obtain ⟨I,J,rfl,i1,i2,i3,i4⟩:=ab;have hm:=ZK (I:=I) (J:=J) (by omega);unfold D8;simp only[hm];by_cases nk:I<J
   ·left;have a7:((I:Int)<(J:Int)):=by omega
    have cY:i64.wrap (((I+J)/2:Nat):Int)=(((I+J)/2:Nat):Int):=cR (by omega);have aY:((0:Int)<=(((I+J)/2:Nat):Int)):=by omega
    have c3:((((I+J)/2:Nat):Int)<(l.length:Int)):=by omega
    have a8:(I+J)/2<l.length:=by omega
    have bH:List.getD l ((I+J)/2) (([]:af),(([]:af),((0:Int),())))=l[(I+J)/2]:=cn a8;have c0:i64.wrap ((((I+J)/2:Nat):Int)+1)=(((I+J)/2+1:Nat):Int):=by rw[cR (by omega)];omega
    simp only[cY,a7,aY,c3,am,aA,b7,bQ,bH,XC,c0];cases ag:Op.bytesLess (l[(I+J)/2]).1 k
    ·have fb: ¬(k4 (l[(I+J)/2]).1 k<0):=by rw[DB,ag];simp
     simp only[fb,bj,aL,not_false_eq_true];refine ⟨_,rfl,⟨I,(I+J)/2,rfl,by omega,by omega,i3,fun m h hm=> ?_⟩,by simp;omega⟩;rcases Nat.lt_or_ge m J with aZ |aZ
     ·cases dB:Op.bytesLess (l[m]).1 k
      ·rfl
      ·rcases Nat.eq_or_lt_of_le hm with bt |bt
       ·subst bt;rw[ag]at dB;cases dB
       ·have dn:Op.bytesLess (l[(I+J)/2]).1 (l[m]).1=true:=List.pairwise_iff_getElem.1 au _ _ a8 h bt;have:=e5 dn dB;rw[ag]at this;cases this
     ·exact i4 m h aZ
    ·have fb:(k4 (l[(I+J)/2]).1 k<0):=by rw[DB,ag]
     simp only[fb,am,aA];refine ⟨_,rfl,⟨(I+J)/2+1,J,rfl,by omega,i2,fun m h hm=> ?_,i4⟩,by simp;omega⟩;rcases Nat.eq_or_lt_of_le (show m<=(I+J)/2 by omega) with bt |bt
     ·subst bt;exact ag
     ·have dn:Op.bytesLess (l[m]).1 (l[(I+J)/2]).1=true:=List.pairwise_iff_getElem.1 au _ _ h a8 bt;exact e5 dn ag
   ·right;have a7: ¬((I:Int)<(J:Int)):=by omega
    have he:I=J:=by omega
    subst he;simp only[a7,bj,aL,not_false_eq_true];refine ⟨_,rfl,?_⟩;have:=JT (key:=bu) k l au I i2 i3 i4;rw[this])
  (l,k,(l.length:Int),(0:Int),(l.length:Int),()) ⟨0,l.length,by simp,by omega,by omega,fun m h hm=>by omega,fun m h hm=>by omega⟩ (by simp;omega)
 subst ad;unfold D9 LL;simp only[aa];by_cases a8:cD bu k l<l.length
 ·have a7:((cD bu k l:Int)<(l.length:Int)):=by omega
  have aY:((0:Int)<=(cD bu k l:Int)):=by omega
  have bH:List.getD l (cD bu k l) (([]:af),(([]:af),((0:Int),())))=l[cD bu k l]:=cn a8;simp only[a7,aY,am,aA,b7,bQ,bH,XC];rw[DG k l au a8];congr 2;have:(k4 (l[cD bu k l]).1 k=0)↔(l[cD bu k l]).1=k:=aoW;simp only[this]
 ·have a7: ¬((cD bu k l:Int)<(l.length:Int)):=by omega
  simp only[a7,bj,aL,not_false_eq_true];rw[x1 k l (by omega)]
theorem Di (l:List ak) (k:af) (au:cg bu l) (ao:l.length<10000000000000):tD (l,k,())=some ((cD bu k l:Int),eB (key:=bu) k l,()):=by
 unfold tD;simp only[apq l k au ao]
section
variable {α:Type} {key:α->af}
theorem yh (k:af): ∀l:List α,cg key l->l.take (cD key k l)=l.filter fun a=>Op.bytesLess (key a) k
 |[],_=>rfl
 |a::l,au=>by
  unfold cD;by_cases h:Op.bytesLess (key a) k=true
  ·rw[if_pos h,List.take_succ_cons,yh k l au.tail,List.filter_cons,if_pos h]
  ·rw[if_neg h,List.take_zero]
   symm
   rw[List.filter_eq_nil_iff];intro b ag a8;rcases List.mem_cons.1 ag with rfl |ag
   ·exact h a8
   ·exact h (e5 (au.head b ag) a8)
theorem DF (k:af): ∀l:List α,cg key l->l.drop (cD key k l)=l.filter fun a=> !Op.bytesLess (key a) k
 |[],_=>rfl
 |a::l,au=>by
  unfold cD;by_cases h:Op.bytesLess (key a) k=true
  ·rw[if_pos h,List.drop_succ_cons,DF k l au.tail,List.filter_cons,if_neg (by rw[h];simp)]
  ·rw[if_neg h,List.drop_zero]
   symm
   rw[List.filter_eq_self];intro b ag;rcases List.mem_cons.1 ag with rfl |ag
   ·simpa using h
   ·cases a8:Op.bytesLess (key b) k
    ·rfl
    ·exact absurd (e5 (au.head b ag) a8) h
theorem yq {lo ab:af} (h:Op.bytesLess lo ab=true): ∀l:List α,cg key l->cD key lo l<=cD key ab l
 |[],_=>Nat.le_refl _
 |a::l,au=>by
  unfold cD;have aO:=yq h l au.tail;by_cases aa:Op.bytesLess (key a) lo=true
  ·rw[if_pos aa,if_pos (e5 aa h)];omega
  ·rw[if_neg aa];omega
theorem af4 {lo ab:af} (h:Op.bytesLess lo ab=true) (l:List α) (au:cg key l):(l.take (cD key ab l)).drop (cD key lo l)=l.filter fun a=> !Op.bytesLess (key a) lo&&Op.bytesLess (key a) ab:=by
 have e:cD key lo (l.take (cD key ab l))=cD key lo l:=by
  symm
  have hle:=yq h l au;have Nl:=mU (key:=key) ab l;apply JT lo _ (List.Pairwise.sublist (List.take_sublist _ _) au)
  ·rw[List.length_take];omega
  ·intro m hm aa;rw[List.getElem_take];exact Lt lo l m (by rw[List.length_take]at hm;omega) aa
  ·intro m hm aa;rw[List.getElem_take];exact Ls lo l au m (by rw[List.length_take]at hm;omega) aa
 conv=>lhs;rw[<-e]
 rw[DF lo _ (List.Pairwise.sublist (List.take_sublist _ _) au),yh ab l au,List.filter_filter]
end
theorem Lb (s:ah) (k:af):xN (s,k,())=some (bU s k,()):=by
 unfold xN bU;cases Op.bytesLess k s.1<;>cases decide ((s.2.1:af)=[])<;>simp
theorem YF (s:ah) (h:mP s):j0 (s,())=some (false,()):=by
 unfold j0;rcases h with h |h
 ·have:decide ((s.2.1:af)=[])=true:=am h;simp only[this,dt,aL]
 ·have aQ:s.2.1≠[]:=by
   intro e;rw[e]at h;cases s.1<;>simp[Op.bytesLess]at h
  have:decide ((s.2.1:af)=[])=false:=bj aQ;have ad:decide ((s.2.1:af)=s.1)=false:=bj (fun e=>jl h e.symm);simp only[this,dr,aA,hG h,ad,Bool.or_self]
theorem anI (t:List ak) (s:ah) (h:mP s) (au:cg bu t) (ao:t.length<10000000000000):CE (t,s,())=some (t.filter (fun p=>bU s p.1),()):=by
 have aa:=mU (key:=bu) s.1 t;have ad:=mU (key:=bu) s.2.1 t;unfold CE Bd;simp only[YF s h,aL,Di t _ au ao];by_cases aQ:s.2.1=[]
 ·have c:decide ((s.2.1:af)=[])=true:=am aQ;have a7:((0:Int)<=(cD bu s.1 t:Int)):=by omega
  have aY:((cD bu s.1 t:Int)<=(t.length:Int)):=by omega
  simp only[c,dt,aL,a7,aY,am,b7,aA,Int.le_refl,bQ,List.take_length];rw[DF s.1 t au];congr 2;apply List.filter_congr;intro p _;unfold bU;simp[aQ,bu]
 ·have a8:=h.resolve_left aQ;have al:=yq (key:=bu) a8 t au;have c:decide ((s.2.1:af)=[])=false:=bj aQ;have a7:((0:Int)<=(cD bu s.1 t:Int)):=by omega
  have aY:((cD bu s.1 t:Int)<=(cD bu s.2.1 t:Int)):=by omega
  have c3:((cD bu s.2.1 t:Int)<=(t.length:Int)):=by omega
  simp only[c,dr,aA,a7,aY,c3,am,b7,bQ];rw[af4 a8 t au];congr 2;apply List.filter_congr;intro p _;unfold bU;simp[aQ,bu]
section
variable {α:Type} {key:α->af}
theorem Dq {x:α}: ∀{l:List α},(∀b∈l,Op.bytesLess (key b) (key x)=true)->gr key x l=l++[x]
 |[],_=>rfl
 |a::l,h=>by
  unfold gr;rw[if_neg (by rw[hG (h a List.mem_cons_self)];simp),Dq (fun b ag=>h b (List.mem_cons_of_mem _ ag))];rfl
theorem Ki {x a:α} (h:Op.bytesLess (key x) (key a)=true): ∀l:List α,gr key x (l++[a])=gr key x l++[a]
 |[]=>by simp[gr,h]
 |b::l=>by
  have aO:=Ki h l;simp only[List.cons_append,gr];by_cases ag:Op.bytesLess (key x) (key b)=true
  ·rw[if_pos ag,if_pos ag];rfl
  ·rw[if_neg ag,if_neg ag,aO];rfl
theorem KZ {k:af} {a:α} (l:List α):gS key k (l++[a])=gS key k l++(if key a=k then [] else [a]):=by
 unfold gS;rw[List.filter_append];congr 1;by_cases h:key a=k<;>simp[h]
end
theorem Xa (t:List ak) (p:ak) (au:cg bu t) (ao:t.length<1000000000000):Bf (t,p,())=some (gr bu p (gS bu p.1 t),()):=by
 obtain ⟨r,aa,ad⟩:=bi (b:=tb) (fun i (s:Bool×List ak)=>(t,s.1,(i:Int),p,s.2,())) t.length
  (fun i s=>s.2.length<=i+1/\(s.1=false->s.2=t.take i/\ ∀b∈t.take i,Op.bytesLess b.1 p.1=true)/\(s.1=true->s.2=gr bu p (gS bu p.1 (t.take i))/\ ∃b∈t.take i,Op.bytesLess b.1 p.1=false))
  (fun r=> ∃d o,r=.inl (d,p,o,())/\o.length<=t.length+1/\(bif d then o else o++[p])=gr bu p (gS bu p.1 t)) (by omega)
  (fun i ab s sT=>by
   left;obtain ⟨d,o⟩:=s;obtain ⟨an,aJ,NR⟩:=sT;have an:o.length<=i+1:=an;have a7:((i:Int)<(t.length:Int)):=by omega
   have aY:((0:Int)<=(i:Int)):=by omega
   have bH:List.getD t i (([]:af),(([]:af),((0:Int),())))=t[i]:=cn ab;have w:=fK i (by omega);have room: ∀(o:List ak) (q:ak),o.length<=i+2->(o.length+([q]:List ak).length)*40<=bm:=fun o q h=>by rw[dV];simp;omega
   have iP:t.take (i+1)=t.take i++[t[i]]:=eZ ab;have aqU: ∀b∈t.take i,Op.bytesLess b.1 (t[i]).1=true:=by
    intro b ag;obtain ⟨j,ay,rfl⟩:=List.getElem_of_mem ag;rw[List.getElem_take];rw[List.length_take]at ay;exact List.pairwise_iff_getElem.1 au j i (by omega) ab (by omega)
   have Fp: ∀(d:Bool) (o:List ak),o.length<=i+2->FI (t,d,(i:Int),p,o,())=some (.inl (t,d,((i+1:Nat):Int),p,(if (t[i]).1=p.1 then o else o++[t[i]]),())):=by
    intro d o h;unfold FI;by_cases he:(t[i]).1=p.1
    ·simp only[a7,aY,am,aA,b7,bQ,bH,w,he,dt,aL,if_pos]
    ·simp only[a7,aY,am,aA,b7,bQ,bH,w,bj he,dr,room o _ h,if_neg he]
   cases d with
   |false=>
    obtain ⟨rfl,fq⟩:=aJ rfl;have hw:gS bu p.1 (t.take i)=t.take i:=by
     apply Dy;rw[eB,List.any_eq_false];intro b ag;have:=jl (fq b ag);simpa using this
    have MV: ∀c,c=(Op.bytesLess p.1 (t[i]).1||decide (p.1=(t[i]).1))->tb (t,false,(i:Int),p,t.take i,())=sH (t,false,(i:Int),c,p,t.take i,()):=by
     intro c aB;unfold tb;simp only[a7,aY,am,aA,b7,bQ,bH,dr,aB]
    have hlen:(t.take i).length<=i:=by rw[List.length_take];omega
    by_cases a8:Op.bytesLess p.1 (t[i]).1=true
    ·have cf: ¬(t[i]).1=p.1:=fun e=>jl a8 e.symm
     refine ⟨(true,t.take i++[p]++[t[i]]),⟨by simp;omega,(by intro h;cases h),fun _=>⟨?_,t[i],by rw[iP];exact List.mem_append_right _ (List.mem_singleton.2 rfl),hG a8⟩⟩,?_⟩
     ·rw[iP,KZ,if_neg cf,hw,Ki (key:=bu) a8,Dq (key:=bu) fq]
     ·rw[MV true (by rw[a8];rfl)];unfold sH;simp only[aA,room (t.take i) p (by omega),am];rw[Fp true _ (by simp;omega),if_neg cf]
    ·have a8:Op.bytesLess p.1 (t[i]).1=false:=by simpa using a8
     by_cases he:(t[i]).1=p.1
     ·refine ⟨(true,t.take i++[p]),⟨by simp;omega,(by intro h;cases h),fun _=>⟨?_,t[i],by rw[iP];exact List.mem_append_right _ (List.mem_singleton.2 rfl),by rw[he];exact gJ _⟩⟩,?_⟩
      ·rw[iP,KZ,if_pos he,List.append_nil,hw,Dq (key:=bu) fq]
      ·rw[MV true (by rw[a8,am he.symm];rfl)];unfold sH;simp only[aA,room (t.take i) p (by omega),am];rw[Fp true _ (by simp;omega),if_pos he]
     ·have n0:Op.bytesLess (t[i]).1 p.1=true:=by
       rcases hg p.1 (t[i]).1 with h |h |h
       ·rw[h]at a8;cases a8
       ·exact absurd h.symm he
       ·exact h
      refine ⟨(false,t.take i++[t[i]]),⟨by simp;omega,fun _=>⟨iP.symm,?_⟩,by intro h;cases h⟩,?_⟩
      ·rw[iP];intro b ag;rcases List.mem_append.1 ag with ag |ag
       ·exact fq b ag
       ·obtain rfl:=List.mem_singleton.1 ag;exact n0
      ·rw[MV false (by rw[a8,bj (fun e=>he e.symm)];rfl)];unfold sH;simp only[aL];rw[Fp false _ (by omega),if_neg he]
   |true=>
    obtain ⟨rfl,b,ag,M0⟩:=NR rfl;have zq:=aqU b ag;have aa8:Op.bytesLess p.1 (t[i]).1=true:=by
     rcases hg p.1 b.1 with h |h |h
     ·exact e5 h zq
     ·rw[h];exact zq
     ·rw[h]at M0;cases M0
    have cf: ¬(t[i]).1=p.1:=fun e=>jl aa8 e.symm
    refine ⟨(true,gr bu p (gS bu p.1 (t.take i))++[t[i]]),⟨?_,(by intro h;cases h),fun _=>⟨?_,b,by rw[iP];exact List.mem_append_left _ ag,M0⟩⟩,?_⟩
    ·rw[List.length_append,Dr];have hw:((gS bu p.1 (t.take i)).length)+1<=i+1:=by
      have:=an;rw[Dr]at this;exact this
     simp;omega
    ·rw[iP,KZ,if_neg cf,Ki (key:=bu) aa8]
    ·unfold tb sH;simp only[a7,am,aA,aL,dt];rw[Fp true _ (by omega),if_neg cf])
  (fun s sT=>by
   obtain ⟨d,o⟩:=s;obtain ⟨an,aJ,NR⟩:=sT;have an:o.length<=t.length+1:=an;have a7: ¬((t.length:Int)<(t.length:Int)):=by omega
   refine ⟨.inl (d,p,o,()),⟨d,o,rfl,an,?_⟩,?_⟩
   ·cases d with
    |true=>
     have e:=(NR rfl).1;rw[List.take_length]at e;exact e
    |false=>
     obtain ⟨e,fq⟩:=aJ rfl;rw[List.take_length]at e fq;have e:o=t:=e;subst e;have hw:gS bu p.1 o=o:=by
      apply Dy;rw[eB,List.any_eq_false];intro b ag;have:=jl (fq b ag);simpa using this
     rw[hw,Dq (key:=bu) fq];rfl
   ·unfold tb;simp only[a7,bj,aL,not_false_eq_true]) (false,[]) ⟨by simp,fun _=>by simp,by intro h;cases h⟩
 obtain ⟨d,o,rfl,an,he⟩:=ad;have aa:bM tb (t,false,(0:Int),p,([]:List ak),())=some (.inl (d,p,o,())):=aa;unfold Bf Ts;simp only[aa];rw[<-he];cases d with
 |true=>simp
 |false=>
  have c3:(o.length+([p]:List ak).length)*40<=bm:=by rw[dV];simp;omega
  simp only[dr,aA,c3,am,aL]
theorem Zy (l:List ah) (k:af) (ao:l.length<1000000000000):Dk (l,k,())=some (l.any (fun s=>bU s k),()):=by
 obtain ⟨r,aa,ad⟩:=bi (b:=BC) (fun i (s:Unit)=>(l,k,(i:Int),())) l.length (fun i s=>(l.take i).any (fun s=>bU s k)=false)
  (fun r=>(r=.inl (true,())/\l.any (fun s=>bU s k)=true)\/(r=.inr ()/\l.any (fun s=>bU s k)=false)) (by omega)
  (fun i ab s au=>by
   have a7:((i:Int)<(l.length:Int)):=by omega
   have aY:((0:Int)<=(i:Int)):=by omega
   have bH:List.getD l i (([]:af),(([]:af),()))=l[i]:=cn ab;have w:=fK i (by omega);unfold BC;simp only[a7,aY,am,aA,b7,bQ,bH,w,Lb];cases h:bU l[i] k
   ·left;refine ⟨(),?_,by simp⟩;rw[eZ ab,List.any_append,au];simp[h]
   ·right;refine ⟨.inl (true,()),.inl ⟨rfl,?_⟩,by simp⟩;rw[List.any_eq_true];exact ⟨l[i],List.getElem_mem ab,h⟩)
  (fun s au=>by
   have a7: ¬((l.length:Int)<(l.length:Int)):=by omega
   rw[List.take_length]at au;refine ⟨.inr (),.inr ⟨rfl,au⟩,?_⟩;unfold BC;simp only[a7,bj,aL,not_false_eq_true]) () (by simp)
 have aa:bM BC (l,k,(0:Int),())=some r:=aa;unfold Dk WR;rw[aa];rcases ad with ⟨rfl,he⟩|⟨rfl,he⟩
 ·rw[he]
 ·rw[he]
theorem JH (t:List ak) (l:List ah) (aU:t.length<1000000000000) (ao:l.length<1000000000000):nl (t,l,())=some (t.filter (fun p=> !l.any (fun s=>bU s p.1)),()):=by
 obtain ⟨r,aa,ad⟩:=bi (b:=Ar) (fun i (o:List ak)=>(t,l,(i:Int),o,())) t.length (fun i o=>o=(t.take i).filter (fun p=> !l.any (fun s=>bU s p.1)))
  (fun r=>r=.inl (t.filter (fun p=> !l.any (fun s=>bU s p.1)),())) (by omega)
  (fun i ab o an=>by
   left;have a7:((i:Int)<(t.length:Int)):=by omega
   have aY:((0:Int)<=(i:Int)):=by omega
   have bH:List.getD t i (([]:af),(([]:af),((0:Int),())))=t[i]:=cn ab;have w:=fK i (by omega);have hlen:o.length<=i:=by
    rw[an];have aa:=List.length_filter_le (fun p:ak=> !l.any (fun s=>bU s p.1)) (t.take i);rw[List.length_take]at aa;omega
   have room:(o.length+([t[i]]:List ak).length)*40<=bm:=by rw[dV];simp;omega
   unfold Ar;simp only[a7,aY,am,aA,b7,bQ,bH,w,Zy l _ ao,room];rw[eZ ab,List.filter_append,<-an];cases h:l.any (fun s=>bU s (t[i]).1)
   ·exact ⟨_,rfl,by simp[h]⟩
   ·exact ⟨_,rfl,by simp[h]⟩)
  (fun o an=>by
   have a7: ¬((t.length:Int)<(t.length:Int)):=by omega
   rw[List.take_length]at an;subst an;refine ⟨_,rfl,?_⟩;unfold Ar;simp only[a7,bj,aL,not_false_eq_true]) [] (by simp)
 subst ad;have aa:bM Ar (t,l,(0:Int),([]:List ak),())=_:=aa;unfold nl RY;simp only[aa]
theorem amT (t:List ak) (l:List ah) (aU:t.length<1000000000000) (ao:l.length<1000000000000):G8 (t,l,())=some (t.filter (fun p=>l.any (fun s=>bU s p.1)),()):=by
 obtain ⟨r,aa,ad⟩:=bi (b:=Aw) (fun i (o:List ak)=>(t,l,(i:Int),o,())) t.length (fun i o=>o=(t.take i).filter (fun p=>l.any (fun s=>bU s p.1)))
  (fun r=>r=.inl (t.filter (fun p=>l.any (fun s=>bU s p.1)),())) (by omega)
  (fun i ab o an=>by
   left;have a7:((i:Int)<(t.length:Int)):=by omega
   have aY:((0:Int)<=(i:Int)):=by omega
   have bH:List.getD t i (([]:af),(([]:af),((0:Int),())))=t[i]:=cn ab;have w:=fK i (by omega);have hlen:o.length<=i:=by
    rw[an];have aa:=List.length_filter_le (fun p:ak=>l.any (fun s=>bU s p.1)) (t.take i);rw[List.length_take]at aa;omega
   have room:(o.length+([t[i]]:List ak).length)*40<=bm:=by rw[dV];simp;omega
   unfold Aw;simp only[a7,aY,am,aA,b7,bQ,bH,w,Zy l _ ao,room];rw[eZ ab,List.filter_append,<-an];cases h:l.any (fun s=>bU s (t[i]).1)
   ·exact ⟨_,rfl,by simp[h]⟩
   ·exact ⟨_,rfl,by simp[h]⟩)
  (fun o an=>by
   have a7: ¬((t.length:Int)<(t.length:Int)):=by omega
   rw[List.take_length]at an;subst an;refine ⟨_,rfl,?_⟩;unfold Aw;simp only[a7,bj,aL,not_false_eq_true]) [] (by simp)
 subst ad;have aa:bM Aw (t,l,(0:Int),([]:List ak),())=_:=aa;unfold G8 Tt;simp only[aa]
structure oT (p:af):Prop where
 pre:kN (p,())=some (c6 p,())
 pre2:l8 (p,())=some (c6 p,())
 sh:p=[]\/p=p.dropLast++[47]
theorem Db {p:af} (h:p∈six):oT p:=⟨(kM p h).1,(kM p h).2.1,(kM p h).2.2⟩
theorem iz {k p:af}:bI k p=true↔ ∃r,k=p++r:=by
 unfold bI;rw[bB,db,db];constructor
 ·rintro ⟨_,h⟩;exact ⟨k.drop p.length,by conv=>lhs;rw[<-List.take_append_drop p.length k,h]⟩
 ·rintro ⟨r,rfl⟩;simp
theorem x9 (p r:af):bI (p++r) p=true:=iz.2 ⟨r,rfl⟩
theorem aoT {k p q:af} (aa:bI k p=true) (ad:bI k q=true):bI p q=true\/bI q p=true:=by
 obtain ⟨r,rfl⟩:=iz.1 aa;obtain ⟨s,e⟩:=iz.1 ad;rcases List.append_eq_append_iff.1 e with ⟨a,al,aE⟩|⟨a,al,aE⟩
 ·right;exact iz.2 ⟨a,al⟩
 ·left;exact iz.2 ⟨a,al⟩
theorem lZ (p a b:af):Op.bytesLess (p++a) (p++b)=Op.bytesLess a b:=by
 induction p with
 |nil=>rfl
 |cons x p aO=>simp[Op.bytesLess,aO]
def eK (f t k:af):af:=t++k.drop f.length
theorem jN (f t r:af):eK f t (f++r)=t++r:=by simp[eK]
theorem anz (k f t:af) (h:t.length+k.length<1000000000000):JA (k,f,t,())=some (bif bI k f then (eK f t k,true,()) else ([],false,())):=by
 unfold JA;simp only[CY];cases ag:bI k f
 ·simp
 ·have hle:f.length<=k.length:=by
   obtain ⟨r,rfl⟩:=iz.1 ag;simp
  have a7:((0:Int)<=(f.length:Int)):=by omega
  have aY:((f.length:Int)<=(k.length:Int)):=by omega
  have c3:t.length+(List.drop f.length k).length<=bm:=by rw[dV,List.length_drop];omega
  simp only[dt,aL,aA,a7,aY,Int.le_refl,am,b7,bQ,List.take_length,c3];rfl
theorem anp (k p:af):sY (k,p,())=some (bI k p,()):=by
 have:=CY k p;unfold q4 at this;unfold sY oZ;simp only[this]
theorem C3 (k f t:af) (h:t.length+k.length<1000000000000):rq (k,f,t,())=some (bif bI k f then (eK f t k,true,()) else ([],false,())):=by
 have aP:oZ (k,f,())=some (bI k f,()):=by
  have:=CY k f;unfold q4 at this;unfold oZ;exact this
 unfold rq F2 Oc;simp only[aP];cases ag:bI k f
 ·simp
 ·have hle:f.length<=k.length:=by
   obtain ⟨r,rfl⟩:=iz.1 ag;simp
  have a7:((0:Int)<=(f.length:Int)):=by omega
  have aY:((f.length:Int)<=(k.length:Int)):=by omega
  have c3:t.length+(List.drop f.length k).length<=bm:=by rw[dV,List.length_drop];omega
  simp only[dt,aL,aA,a7,aY,Int.le_refl,am,b7,bQ,List.take_length,c3];rfl
def iW (acc:List ak) (p:ak):List ak:=gr bu p (gS bu p.1 acc)
def iA (base l:List ak):List ak:=l.foldl iW base
def gn (f t:af) (p:ak):ak:=(eK f t p.1,p.2.1,p.2.2.1,())
theorem amg (base l:List ak) (p:ak):iA base (l++[p])=iW (iA base l) p:=by simp[iA]
theorem YO (acc:List ak) (p:ak):(iW acc p).length<=acc.length+1:=by
 unfold iW;have:=agd (key:=bu) (k:=p.1) acc;rw[Dr];omega
theorem CP: ∀(l base:List ak),(iA base l).length<=base.length+l.length
 |[],base=>by simp[iA]
 |p::l,base=>by
  have aa:=CP l (iW base p);have ad:=YO base p;show (iA (iW base p) l).length<=_;simp;omega
theorem BN: ∀(l base:List ak),cg bu base->cg bu (iA base l)
 |[],base,h=>h
 |p::l,base,h=>BN l (iW base p) (cg.ins h.wo (Zb _ _))
def Fo (m:a6):Prop:=m.1=4\/m.1=5
def h3 (m:a6) (t:List ak):List ak:=
 bif decide (m.1=4) then (t.filter fun x=> !bI x.1 m.2.2.2.2.2.1).filter fun x=> !bI x.1 m.2.2.2.2.1 else t.filter fun x=> !bI x.1 m.2.2.2.2.2.1
def gb (m:a6) (t:List ak):List ak:=t.filter fun x=>bI x.1 m.2.2.2.2.1
theorem Q1 (t:List ak) (p:af) (aP:oT p) (ao:t.length<1000000000000):nl (t,[c6 p],())=some (t.filter (fun x=> !bI x.1 p),()):=by
 rw[JH t _ ao (by simp)];congr 2;apply List.filter_congr;intro x aw;simp only[List.any_cons,List.any_nil,Bool.or_false,uJ aP.sh]
theorem afM (t:List ak) (p:af) (aP:oT p) (ao:t.length<1000000000000):G8 (t,[c6 p],())=some (t.filter (fun x=>bI x.1 p),()):=by
 rw[amT t _ ao (by simp)];congr 2;apply List.filter_congr;intro x aw;simp only[List.any_cons,List.any_nil,Bool.or_false,uJ aP.sh]
theorem VR (m:a6) (base src:List ak) (ag:cg bu base) (au8:base.length<100000000000) (zV:src.length<100000000000) (gX: ∀p∈src,bI p.1 m.2.2.2.2.1=true/\m.2.2.2.2.2.1.length+p.1.length<1000000000000):
  HU ((0:Int),m,base,src,())=some (.inl (iA base (src.map (gn m.2.2.2.2.1 m.2.2.2.2.2.1)),())):=by
 obtain ⟨r,aa,ad⟩:=bi (b:=Gx) (fun i (o:List ak)=>((i:Int),m,o,src,())) src.length (fun i o=>o=iA base ((src.take i).map (gn m.2.2.2.2.1 m.2.2.2.2.2.1)))
  (fun r=>r=.inl (iA base (src.map (gn m.2.2.2.2.1 m.2.2.2.2.2.1)),())) (by omega)
  (fun i ab o an=>by
   left;have a7:((i:Int)<(src.length:Int)):=by omega
   have aY:((0:Int)<=(i:Int)):=by omega
   have bH:List.getD src i (([]:af),(([]:af),((0:Int),())))=src[i]:=cn ab;have w:=fK i (by omega);obtain ⟨ai,aq⟩:=gX _ (List.getElem_mem ab);have hlen:=CP ((src.take i).map (gn m.2.2.2.2.1 m.2.2.2.2.2.1)) base;rw[List.length_map,List.length_take]at hlen;have NL:cg bu o:=by rw[an];exact BN _ _ ag
   have mC:o.length<1000000000000:=by rw[an];omega
   have hm:=anz (src[i]).1 m.2.2.2.2.1 m.2.2.2.2.2.1 aq;rw[ai,aA]at hm;have eY:=Xa o (gn m.2.2.2.2.1 m.2.2.2.2.2.1 src[i]) NL mC;have eY:Bf (o,(eK m.2.2.2.2.1 m.2.2.2.2.2.1 (src[i]).1,(src[i]).2.1,(src[i]).2.2.1,()),())=some (iW o (gn m.2.2.2.2.1 m.2.2.2.2.2.1 src[i]),()):=eY;refine ⟨_,rfl,?_⟩;rw[eZ ab,List.map_append,List.map_singleton,amg,<-an];unfold Gx;simp only[a7,aY,am,aA,b7,bQ,bH,w,hm,eY])
  (fun o an=>by
   have a7: ¬((src.length:Int)<(src.length:Int)):=by omega
   rw[List.take_length]at an;subst an;refine ⟨_,rfl,?_⟩;unfold Gx;simp only[a7,bj,aL,not_false_eq_true]) base (by simp[iA])
 subst ad;exact aa
theorem amq (t:List ak) (m:a6) (hm:Fo m) (aJ:oT m.2.2.2.2.1) (aU:oT m.2.2.2.2.2.1) (au:cg bu t) (ao:t.length<100000000000) (av: ∀p∈t,m.2.2.2.2.2.1.length+p.1.length<1000000000000):
  rb (t,m,())=some (iA (h3 m t) ((gb m t).map (gn m.2.2.2.2.1 m.2.2.2.2.2.1)),()):=by
 have cC:decide (m.1=1)=false:=bj (by rcases hm with h |h<;>rw[h]<;>decide);have dj:decide (m.1=2)=false:=bj (by rcases hm with h |h<;>rw[h]<;>decide);have n3:decide (m.1=3)=false:=bj (by rcases hm with h |h<;>rw[h]<;>decide);have n6:decide (m.1=6)=false:=bj (by rcases hm with h |h<;>rw[h]<;>decide);have dd:=List.length_filter_le (fun x:ak=> !bI x.1 m.2.2.2.2.2.1) t;have cM:=List.length_filter_le (fun x:ak=>bI x.1 m.2.2.2.2.1) t;have nu:=List.length_filter_le (fun x:ak=> !bI x.1 m.2.2.2.2.1) (t.filter fun x=> !bI x.1 m.2.2.2.2.2.1);have gX: ∀p∈gb m t,bI p.1 m.2.2.2.2.1=true/\m.2.2.2.2.2.1.length+p.1.length<1000000000000:=fun p aP=>⟨(List.mem_filter.1 aP).2,av p (List.mem_filter.1 aP).1⟩
 have zV:(gb m t).length<100000000000:=by unfold gb;omega
 unfold rb;simp only[cC,dj,n3,n6,aL,aJ.pre2,aU.pre2,Q1 t _ aU (by omega),afM t _ aJ (by omega)];cases aE:decide (m.1=4)
 ·have sI:h3 m t=t.filter fun x=> !bI x.1 m.2.2.2.2.2.1:=by unfold h3;rw[aE];rfl
  have:=VR m (h3 m t) (gb m t) (by rw[sI];exact List.Pairwise.filter _ au) (by rw[sI];omega) zV gX;rw[sI]at this ⊢;unfold gb at this ⊢;simp only[aL,this]
 ·have sI:h3 m t=(t.filter fun x=> !bI x.1 m.2.2.2.2.2.1).filter fun x=> !bI x.1 m.2.2.2.2.1:=by unfold h3;rw[aE];rfl
  have:=VR m (h3 m t) (gb m t) (by rw[sI];exact List.Pairwise.filter _ (List.Pairwise.filter _ au)) (by rw[sI];omega) zV gX;rw[sI]at this ⊢;unfold gb at this ⊢;simp only[aA,Q1 _ _ aJ (show (t.filter fun x=> !bI x.1 m.2.2.2.2.2.1).length<1000000000000 by omega),this]
theorem ann {k:af} {p:ak} {l:List ak} (aa:p.1≠k) (ad:eB (key:=bu) k l=false):eB (key:=bu) k (gr bu p l)=false:=by
 unfold eB at ad ⊢;rw[List.any_eq_false]at ad ⊢;intro b ag;rcases x2.1 ag with rfl |ag
 ·simpa using aa
 ·exact ad b ag
structure rT (m:a6):Prop where
 kind:Fo m
 from_:m.2.2.2.2.1∈eM
 to_:m.2.2.2.2.2.1∈eM
 ap1:bI m.2.2.2.2.1 m.2.2.2.2.2.1=false
 ap2:bI m.2.2.2.2.2.1 m.2.2.2.2.1=false
theorem rT.not_both {m:a6} (h:rT m) {k:af} (aa:bI k m.2.2.2.2.1=true):bI k m.2.2.2.2.2.1=false:=by
 cases ad:bI k m.2.2.2.2.2.1
 ·rfl
 ·rcases aoT aa ad with al |al
  ·rw[h.ap1]at al;cases al
  ·rw[h.ap2]at al;cases al
theorem rT.not_both2 {m:a6} (h:rT m) {k:af} (aa:bI k m.2.2.2.2.2.1=true):bI k m.2.2.2.2.1=false:=by
 cases ad:bI k m.2.2.2.2.1
 ·rfl
 ·rw[h.not_both ad]at aa;cases aa
def oS (m:a6) (t:List ak):List ak:=iA (h3 m t) ((gb m t).map (gn m.2.2.2.2.1 m.2.2.2.2.2.1))
theorem am1 {m:a6} {t:List ak} {x:ak} (h:x∈h3 m t):x∈t/\bI x.1 m.2.2.2.2.2.1=false:=by
 unfold h3 at h;cases av:decide (m.1=4)
 ·rw[av]at h;have:=List.mem_filter.1 h;exact ⟨this.1,by simpa using this.2⟩
 ·rw[av]at h;have:=List.mem_filter.1 (List.mem_filter.1 h).1;exact ⟨this.1,by simpa using this.2⟩
theorem am2 {m:a6} {t:List ak} (h:cg bu t):cg bu (h3 m t):=by
 unfold h3;cases decide (m.1=4)
 ·exact List.Pairwise.filter _ h
 ·exact List.Pairwise.filter _ (List.Pairwise.filter _ h)
theorem am0 (m:a6) (t:List ak):(h3 m t).length<=t.length:=by
 unfold h3;cases decide (m.1=4)
 ·exact List.length_filter_le _ _
 ·exact Nat.le_trans (List.length_filter_le _ _) (List.length_filter_le _ _)
theorem sn {f t k:af}:bI (eK f t k) t=true:=iz.2 ⟨_,rfl⟩
theorem X2 {m:a6} {t:List ak}: ∀p∈(gb m t).map (gn m.2.2.2.2.1 m.2.2.2.2.2.1),eB (key:=bu) p.1 (h3 m t)=false:=by
 intro p aP;obtain ⟨q,aN,rfl⟩:=List.mem_map.1 aP;unfold eB;rw[List.any_eq_false];intro b ag;have aa:=(am1 ag).2;intro e;have e:b.1=eK m.2.2.2.2.1 m.2.2.2.2.2.1 q.1:=of_decide_eq_true e;rw[e,sn]at aa;cases aa
theorem Dw {m:a6} {t:List ak} (au:cg bu t):((gb m t).map (gn m.2.2.2.2.1 m.2.2.2.2.2.1)).Pairwise (fun a b=>a.1≠b.1):=by
 rw[List.pairwise_map];have h:cg bu (gb m t):=List.Pairwise.filter _ au;refine List.Pairwise.imp_of_mem (fun {a b} aR ag fc=> ?_) h;obtain ⟨r,az⟩:=iz.1 (List.mem_filter.1 aR).2;obtain ⟨s,au⟩:=iz.1 (List.mem_filter.1 ag).2;show eK _ _ a.1≠eK _ _ b.1;rw[az,au,jN,jN];intro e;have e:=List.append_cancel_left e;have fc:Op.bytesLess a.1 b.1=true:=fc;rw[az,au,e,gJ]at fc;cases fc
theorem Y4 {m:a6} {t:List ak} (au:cg bu t):cg bu (oS m t):=BN _ _ (am2 au)
theorem aoO (m:a6) (t:List ak):(oS m t).length<=2*t.length:=by
 have aa:=CP ((gb m t).map (gn m.2.2.2.2.1 m.2.2.2.2.2.1)) (h3 m t);have ad:=am0 m t;have al:(gb m t).length<=t.length:=List.length_filter_le _ _;rw[List.length_map]at aa;unfold oS;omega
theorem CZ (t:List ak) (h:t.length<1000000000000):sA (t,())=some (t,()):=by
 unfold sA;have:(List.length ([]:List ak)+t.length)*40<=bm:=by rw[dV];simp;omega
 simp only[this,am,aA]
theorem afH (t:List ak) (p:ak) (au:cg bu t) (ao:t.length<1000000000000):Dd (t,p,())=some (iW t p,()):=by
 have hle:=mU (key:=bu) p.1 t;unfold Dd iW;simp only[Di t p.1 au (by omega),CZ t ao];cases bC:eB (key:=bu) p.1 t
 ·have aqL:EP ((cD bu p.1 t:Int),t,[p],())=some ([p],gr bu p t,()):=by
   unfold EP yz;have a7:((0:Int)<=(cD bu p.1 t:Int)):=by omega
   have aY:((cD bu p.1 t:Int)<=(t.length:Int)):=by omega
   have c3:([p]:List ak).length=1:=rfl;have fb:t.length+1<1000000000000000000:=by omega
   have n5:(t.length+1)*40<=bm:=by rw[dV];omega
   simp only[a7,aY,c3,fb,n5,am,b7,aA,bQ];rw[Zz t au bC]
  simp only[aL,aqL];rw[Dy _ _ bC]
 ·have a8:cD bu p.1 t<t.length:=by
   rcases Nat.lt_or_ge (cD bu p.1 t) t.length with h |h
   ·exact h
   ·rw[x1 p.1 t (by omega)]at bC;cases bC
  have a7:((0:Int)<=(cD bu p.1 t:Int)):=by omega
  have aY:((cD bu p.1 t:Int)<(t.length:Int)):=by omega
  simp only[aA,a7,aY,am,b7,bQ];rw[ZP t au bC]
theorem afr (n:Nat) (h:n<1000000000000):ET ((n:Int),())=some (([]:List ak),()):=by
 unfold ET;have gu:i64.wrap ((0:Int)-0)=0:=by decide
 have cY:i64.wrap ((n:Int)-0)=(n:Int):=by rw[cR (by omega)];omega
 have a7: ¬((n:Int)<0):=by omega
 simp only[gu,cY,bj a7,aL];by_cases aQ:n=0
 ·subst aQ;have: ¬(((0:Nat):Int)>0):=by decide
  simp only[bj this,aL]
 ·have aY:((n:Int)>0):=by omega
  have c3:((0:Int)<(n:Int)):=by omega
  have fb:((n:Int)*40<=(bm:Int)):=by rw[dV];omega
  have c5:((0:Int)<=((List.replicate (Int.toNat (n:Int)) (([]:af),(([]:af),((0:Int),())))).length:Int)):=by omega
  simp only[aY,c3,fb,c5,am,b7,aA,List.take_zero]
theorem Yd (a b:List ak) (h:a.length+b.length<1000000000000):EO ([a,b],())=some (a++b,()):=by
 have cY:i64.wrap ((0:Int)+(a.length:Int))=(a.length:Int):=by rw[cR (by omega)];omega
 have c0:i64.wrap ((a.length:Int)+(b.length:Int))=((a.length+b.length:Nat):Int):=by rw[cR (by omega)];omega
 have fJ:i64.wrap ((0:Int)+1)=1:=by decide
 have jo:i64.wrap ((1:Int)+1)=2:=by decide
 have cC: ¬((a.length:Int)<0):=by omega
 have dj: ¬(((a.length+b.length:Nat):Int)<0):=by omega
 have cM:(([a,b]:List (List ak)).length:Int)=2:=rfl;have g0:List.getD [a,b] (Int.toNat 0) ([]:List ak)=a:=rfl;have g1:List.getD [a,b] (Int.toNat 1) ([]:List ak)=b:=rfl;have ZX:decide ((0:Int)<2)=true:=by decide
 have d12:decide ((1:Int)<2)=true:=by decide
 have d22:decide ((2:Int)<2)=false:=by decide
 have ZV:decide ((0:Int)<=0)=true:=by decide
 have ZW:decide ((0:Int)<=1)=true:=by decide
 have ic:oK ([a,b],(0:Int),[a,b],(2:Int),(0:Int),())=some (.inl ([a,b],(a.length:Int),[a,b],(2:Int),(1:Int),())):=by
  unfold oK;simp only[cM,g0,ZX,ZV,aA,aL,b7,cY,fJ,bj cC]
 have s1:oK ([a,b],(a.length:Int),[a,b],(2:Int),(1:Int),())=some (.inl ([a,b],((a.length+b.length:Nat):Int),[a,b],(2:Int),(2:Int),())):=by
  unfold oK;simp only[cM,g1,d12,ZW,aA,aL,b7,c0,jo,bj dj]
 have s2:oK ([a,b],((a.length+b.length:Nat):Int),[a,b],(2:Int),(2:Int),())=some (.inr (.inl ([a,b],((a.length+b.length:Nat):Int),()))):=by
  unfold oK;simp only[d22,aL]
 have aa:bM oK ([a,b],(0:Int),[a,b],(2:Int),(0:Int),())=some (.inl ([a,b],((a.length+b.length:Nat):Int),())):=lp (n:=3) (by rw[jM];omega) (by simp only[dR,ic,s1,s2]);have ar:(([]:List ak).length+a.length)*40<=bm:=by rw[dV];simp;omega
 have aM:(([]++a:List ak).length+b.length)*40<=bm:=by rw[dV];simp;omega
 have at6:oL ([a,b],(2:Int),(0:Int),([]:List ak),())=some (.inl ([a,b],(2:Int),(1:Int),[]++a,())):=by
  unfold oL;simp only[cM,g0,ZX,ZV,aA,b7,fJ,ar,am]
 have mQ:oL ([a,b],(2:Int),(1:Int),[]++a,())=some (.inl ([a,b],(2:Int),(2:Int),[]++a++b,())):=by
  unfold oL;simp only[cM,g1,d12,ZW,aA,b7,jo,aM,am]
 have mR:oL ([a,b],(2:Int),(2:Int),[]++a++b,())=some (.inr (.inl ([]++a++b,()))):=by
  unfold oL;simp only[d22,aL]
 have ad:bM oL ([a,b],(2:Int),(0:Int),([]:List ak),())=some (.inl ([]++a++b,())):=lp (n:=3) (by rw[jM];omega) (by simp only[dR,at6,mQ,mR]);unfold EO MI MJ;simp only[cM,aa,afr _ h,ad,List.nil_append]
section
variable {α:Type} {key:α->af}
theorem af7 {lo ab:af} (h:Op.bytesLess lo ab=true) (l:List α) (au:cg key l):l.take (cD key lo l)++l.drop (cD key ab l)=l.filter fun a=> !(!Op.bytesLess (key a) lo&&Op.bytesLess (key a) ab):=by
 have e:l=l.take (cD key ab l)++l.drop (cD key ab l):=(List.take_append_drop _ _).symm;have hle:=yq h l au
 conv=>rhs;rw[e]
 rw[List.filter_append];have ai:(l.drop (cD key ab l)).filter (fun a=> !(!Op.bytesLess (key a) lo&&Op.bytesLess (key a) ab))=l.drop (cD key ab l):=by
  rw[List.filter_eq_self];intro a aR;rw[DF ab l au]at aR;have:=(List.mem_filter.1 aR).2;have:Op.bytesLess (key a) ab=false:=by simpa using this
  rw[this];simp
 have aq:(l.take (cD key ab l)).filter (fun a=> !(!Op.bytesLess (key a) lo&&Op.bytesLess (key a) ab))=l.take (cD key lo l):=by
  rw[yh ab l au,List.filter_filter,yh lo l au];apply List.filter_congr;intro a _;cases aa:Op.bytesLess (key a) lo
  ·cases Op.bytesLess (key a) ab<;>rfl
  ·rw[e5 aa h];rfl
 rw[ai,aq]
end
theorem KB (t:List ak) (s:ah) (h:mP s) (au:cg bu t) (ao:t.length<1000000000000):ru (t,s,())=some (t.filter (fun p=> !bU s p.1),()):=by
 have aa:=mU (key:=bu) s.1 t;have ad:=mU (key:=bu) s.2.1 t;unfold ru Bd;simp only[YF s h,aL,Di t _ au (show t.length<10000000000000 by omega)];have a7:((0:Int)<=(cD bu s.1 t:Int)):=by omega
 have aY:((cD bu s.1 t:Int)<=(t.length:Int)):=by omega
 by_cases aQ:s.2.1=[]
 ·have c:decide ((s.2.1:af)=[])=true:=am aQ;have c3:((0:Int)<=(t.length:Int)):=by omega
  have ax:List.drop t.length t=[]:=List.drop_length;simp only[c,dt,aL,a7,aY,c3,am,b7,aA,Int.le_refl,bQ,List.take_length,List.drop_zero,ax];rw[Yd _ _ (by simp;omega)];simp only[List.append_nil];rw[yh s.1 t au];congr 2;apply List.filter_congr;intro p _;unfold bU;simp[aQ,bu]
 ·have a8:=h.resolve_left aQ;have c:decide ((s.2.1:af)=[])=false:=bj aQ;have c3:((0:Int)<=(cD bu s.2.1 t:Int)):=by omega
  have fb:((cD bu s.2.1 t:Int)<=(t.length:Int)):=by omega
  simp only[c,dr,aA,a7,aY,c3,fb,am,b7,Int.le_refl,bQ,List.take_length,List.drop_zero];rw[Yd _ _ (by have:=yq (key:=bu) a8 t au;rw[List.length_take,List.length_drop];omega),af7 a8 t au];dsimp only;congr 2;apply List.filter_congr;intro p _;unfold bU;simp[aQ,bu]
theorem uM: ∀{a b:List ak},cg bu a->cg bu b->(∀x,x∈a↔x∈b)->a=b
 |[],[],_,_,_=>rfl
 |[],y::b,_,_,h=>by have:=(h y).2 List.mem_cons_self;cases this
 |x::a,[],_,_,h=>by have:=(h x).1 List.mem_cons_self;cases this
 |x::a,y::b,aR,ag,h=>by
  have qU:x=y:=by
   rcases List.mem_cons.1 ((h x).1 List.mem_cons_self) with e |e
   ·exact e
   ·rcases List.mem_cons.1 ((h y).2 List.mem_cons_self) with aq |aq
    ·exact aq.symm
    ·have aa:=ag.head x e;have ad:=aR.head y aq;have:=e5 aa ad;rw[gJ]at this;cases this
  subst qU;congr 1;refine uM aR.tail ag.tail (fun z=> ?_);have bz:=h z;constructor
  ·intro Fl;rcases List.mem_cons.1 (bz.1 (List.mem_cons_of_mem _ Fl)) with e |e
   ·subst e;have:=aR.head z Fl;rw[gJ]at this;cases this
   ·exact e
  ·intro vV;rcases List.mem_cons.1 (bz.2 (List.mem_cons_of_mem _ vV)) with e |e
   ·subst e;have:=ag.head z vV;rw[gJ]at this;cases this
   ·exact e
theorem aol {acc:List ak} {p x:ak}:x∈iW acc p↔x=p\/(x∈acc/\x.1≠p.1):=by
 unfold iW;rw[x2];constructor
 ·rintro (h |h)
  ·exact .inl h
  ·have:=List.mem_filter.1 h;exact .inr ⟨this.1,by simpa using this.2⟩
 ·rintro (h |⟨aa,ad⟩)
  ·exact .inl h
  ·exact .inr (List.mem_filter.2 ⟨aa,by simpa using ad⟩)
theorem AB: ∀{l base:List ak},(∀p∈l,eB (key:=bu) p.1 base=false)->l.Pairwise (fun a b=>a.1≠b.1)-> ∀x,x∈iA base l↔x∈base\/x∈l
 |[],base,_,_,x=>by simp[iA]
 |p::l,base,aa,ad,x=>by
  have hw:gS bu p.1 base=base:=Dy _ _ (aa p List.mem_cons_self);have aP:iW base p=gr bu p base:=by unfold iW;rw[hw]
  have al:=List.pairwise_cons.1 ad;have aO:=AB (l:=l) (base:=iW base p) (fun q aN=>by
   rw[aP];exact ann (al.1 q aN) (aa q (List.mem_cons_of_mem _ aN))) al.2 x
  show x∈iA (iW base p) l↔_;rw[aO,aP,x2,List.mem_cons];constructor
  ·rintro ((h |h)|h)
   ·exact .inr (.inl h)
   ·exact .inl h
   ·exact .inr (.inr h)
  ·rintro (h |h |h)
   ·exact .inl (.inr h)
   ·exact .inl (.inl h)
   ·exact .inr h
theorem C1 {α:Type} {P Q:List α} {x d:α} {i:Nat} (h:P.length=i):List.getD (P++x::Q) i d=x:=by
 subst h;simp[List.getD]
theorem YY {out a b:List ak} {x y:ak} (aa:cg bu (out++x::a)) (ad:cg bu (out++y::b)) (a8:Op.bytesLess x.1 y.1=true):cg bu (out++[x]++y::b):=by
 unfold cg at aa ad ⊢;rw[List.pairwise_append]at aa ad;rw[List.append_assoc,List.pairwise_append];refine ⟨aa.1,?_,?_⟩
 ·show List.Pairwise _ (x::y::b);refine List.pairwise_cons.2 ⟨fun z bz=> ?_,ad.2.1⟩;rcases List.mem_cons.1 bz with rfl |bz
  ·exact a8
  ·exact e5 a8 ((List.pairwise_cons.1 ad.2.1).1 z bz)
 ·intro u hu z bz;rcases List.mem_cons.1 bz with rfl |bz
  ·exact aa.2.2 u hu _ List.mem_cons_self
  ·exact ad.2.2 u hu z bz
theorem YJ (a b:List ak) (aR:cg bu a) (ag:cg bu b) (ax: ∀p∈a,∀q∈b,p.1≠q.1) (ao:a.length+b.length<1000000000000):
  ∃r,BG (a,b,())=some (r,())/\cg bu r/\ ∀x,x∈r↔x∈a\/x∈b:=by
 obtain ⟨r,aa,ad⟩:=xK (b:=wB) (fun s=>s.1.length+s.2.1.length)
  (fun s=> ∃bc bJ out:List ak,s=(bc,bJ,out,())/\cg bu (out++bc)/\cg bu (out++bJ)/\(∀p∈bc,∀q∈bJ,p.1≠q.1)/\(∀x,(x∈out\/x∈bc\/x∈bJ)↔x∈a\/x∈b)/\out.length+bc.length+bJ.length=a.length+b.length)
  (fun r=> ∃bc bJ out:List ak,r=.inl (bc,bJ,out,())/\cg bu (out++bc++bJ)/\(∀x,(x∈out\/x∈bc\/x∈bJ)↔x∈a\/x∈b)/\out.length+bc.length+bJ.length=a.length+b.length)
  (fun s au=>by
   obtain ⟨bc,bJ,out,rfl,s1,s2,jE,hm,hlen⟩:=au;cases bc with
   |nil=>
    right;refine ⟨.inl ([],bJ,out,()),?_,[],bJ,out,rfl,by simpa using s2,hm,hlen⟩;unfold wB At;have:decide ((([]:List ak).length:Int)=0)=true:=by decide
    simp only[this,dt,aL,aA]
   |cons x bc=>
    cases bJ with
    |nil=>
     right;refine ⟨.inl (x::bc,[],out,()),?_,x::bc,[],out,rfl,by simpa using s1,hm,hlen⟩;unfold wB At;have d1:decide (((x::bc).length:Int)=0)=false:=bj (by simp;omega);have d2:decide ((([]:List ak).length:Int)=0)=true:=by decide
     simp only[d1,d2,dr,aA]
    |cons y bJ=>
     left;have d1:decide (((x::bc).length:Int)=0)=false:=bj (by simp;omega);have d2:decide (((y::bJ).length:Int)=0)=false:=bj (by simp;omega);have d3:((0:Int)<((x::bc).length:Int)):=by simp
     have d4:((0:Int)<((y::bJ).length:Int)):=by simp
     have d5:((1:Int)<=((x::bc).length:Int)):=by simp;omega
     have d6:((1:Int)<=((y::bJ).length:Int)):=by simp;omega
     have g1:List.getD (x::bc) 0 (([]:af),(([]:af),((0:Int),())))=x:=rfl;have g2:List.getD (y::bJ) 0 (([]:af),(([]:af),((0:Int),())))=y:=rfl;have ai:List.drop (Int.toNat 1) (x::bc)=bc:=rfl;have aq:List.drop (Int.toNat 1) (y::bJ)=bJ:=rfl;have avj:out.length<1000000000000:=by simp at hlen;omega
     have room: ∀q:ak,(out.length+([q]:List ak).length)*40<=bm:=fun q=>by rw[dV];simp;omega
     have cf:x.1≠y.1:=jE x List.mem_cons_self y List.mem_cons_self;unfold wB At;simp only[d1,d2,dr,aA,aL,d3,d4,d5,am,g1,g2,room,Int.le_refl,b7,bQ,List.take_length,ai];cases a8:Op.bytesLess x.1 y.1
     ·have n0:Op.bytesLess y.1 x.1=true:=by
       rcases hg x.1 y.1 with h |h |h
       ·rw[h]at a8;cases a8
       ·exact absurd h cf
       ·exact h
      unfold O2;simp only[bj cf,aL,d4,d6,am,aA,g2,room,Int.le_refl,b7,bQ,List.take_length,aq];refine ⟨_,rfl,⟨x::bc,bJ,out++[y],rfl,YY s2 s1 n0,by simpa using s2,fun p aP q aN=>jE p aP q (List.mem_cons_of_mem _ aN),fun z=> ?_,by simp at hlen ⊢;omega⟩,by simp⟩;rw[<-hm z];simp only[List.mem_append,List.mem_cons,List.mem_nil_iff,or_false];constructor
      ·rintro ((h |h)|(h |h)|h)<;>simp[h]
      ·rintro (h |(h |h)|(h |h))<;>simp[h]
     ·simp only[aA];refine ⟨_,rfl,⟨bc,y::bJ,out++[x],rfl,by simpa using s1,YY s1 s2 a8,fun p aP q aN=>jE p (List.mem_cons_of_mem _ aP) q aN,fun z=> ?_,by simp at hlen ⊢;omega⟩,by simp⟩;rw[<-hm z];simp only[List.mem_append,List.mem_cons,List.mem_nil_iff,or_false];constructor
      ·rintro ((h |h)|h |(h |h))<;>simp[h]
      ·rintro (h |(h |h)|(h |h))<;>simp[h])
  (a,b,[],()) ⟨a,b,[],rfl,by simpa using aR,by simpa using ag,ax,by intro x;simp,by simp⟩ (by simp;omega)
 obtain ⟨bc,bJ,out,rfl,au,hm,hlen⟩:=ad;have w:i64.wrap ((a.length:Int)+(b.length:Int))=((a.length+b.length:Nat):Int):=by rw[cR (by omega)];omega
 have a7:((0:Int)<=((a.length+b.length:Nat):Int)):=by omega
 have aY:(((a.length+b.length:Nat):Int)*40<=(bm:Int)):=by rw[dV];omega
 have c3:(out.length+bc.length)*40<=bm:=by rw[dV];omega
 have fb:((out++bc).length+bJ.length)*40<=bm:=by rw[dV,List.length_append];omega
 refine ⟨out++bc++bJ,?_,au,fun x=> ?_⟩
 ·unfold BG HY;simp only[w,a7,aY,Int.le_refl,Nat.le_refl,cK,am,b7,aA,List.replicate_zero,aa,c3,fb]
 ·rw[<-hm x];simp only[List.mem_append];constructor
  ·rintro ((h |h)|h)<;>simp[h]
  ·rintro (h |h |h)<;>simp[h]
theorem al6 (t:List ak) (f u:af) (aJ:oT f) (au:cg bu t) (ao:t.length<1000000000000) (av: ∀p∈t,u.length+p.1.length<1000000000000):
  C5 (t,f,u,())=some ((t.filter fun x=>bI x.1 f).map (gn f u),()):=by
 have e:(t.filter fun x=>bU (c6 f) x.1)=t.filter fun x=>bI x.1 f:=by
  apply List.filter_congr;intro x _;exact uJ aJ.sh _
 have cM:=List.length_filter_le (fun x:ak=>bI x.1 f) t;have aba:=anI t (c6 f) (Lx aJ.sh) au (by omega);rw[e]at aba;have gX: ∀p∈t.filter (fun x=>bI x.1 f),bI p.1 f=true/\u.length+p.1.length<1000000000000:=fun p aP=>⟨(List.mem_filter.1 aP).2,av p (List.mem_filter.1 aP).1⟩
 generalize t.filter (fun x=>bI x.1 f)=src at*;obtain ⟨r,aa,ad⟩:=bi (b:=wK) (fun i (o:List ak)=>(f,u,(src.length:Int),(i:Int),o,())) src.length (fun i o=>o=(src.take i).map (gn f u)++src.drop i)
  (fun r=>r=.inl (src.map (gn f u),())) (by omega)
  (fun i ab o an=>by
   left;have ax:src.drop i=src[i]::src.drop (i+1):=List.drop_eq_getElem_cons ab;have hlen:((src.take i).map (gn f u)).length=i:=by rw[List.length_map,List.length_take];omega
   have mC:o.length=src.length:=by rw[an,List.length_append,hlen,List.length_drop];omega
   have a7:((i:Int)<(src.length:Int)):=by omega
   have aY:((0:Int)<=(i:Int)):=by omega
   have bH:List.getD o i (([]:af),(([]:af),((0:Int),())))=src[i]:=by
    rw[an,ax];exact C1 hlen
   have w:=fK i (by omega);obtain ⟨ai,aq⟩:=gX _ (List.getElem_mem ab);have hm:=C3 (src[i]).1 f u aq;rw[ai,aA]at hm;refine ⟨_,rfl,?_⟩;have jI:o.set i (gn f u src[i])=(src.take (i+1)).map (gn f u)++src.drop (i+1):=by
    rw[an,ax,eZ ab,List.map_append,List.append_assoc];rw[List.set_append_right _ _ (by omega),hlen,Nat.sub_self];rfl
   rw[<-jI];unfold wK;simp only[mC,a7,aY,am,aA,b7,bQ,bH,w,hm];rfl)
  (fun o an=>by
   have a7: ¬((src.length:Int)<(src.length:Int)):=by omega
   rw[List.take_length,List.drop_length,List.append_nil]at an;subst an;refine ⟨_,rfl,?_⟩;unfold wK;simp only[a7,bj,aL,not_false_eq_true]) src (by simp)
 subst ad;have aa:bM wK (f,u,(src.length:Int),(0:Int),src,())=_:=aa;unfold C5 IY;simp only[aJ.pre,aba,CZ src (by omega),aa]
theorem afy {m:a6} {t:List ak} (au:cg bu t):cg bu ((gb m t).map (gn m.2.2.2.2.1 m.2.2.2.2.2.1)):=by
 unfold cg;rw[List.pairwise_map];have h:cg bu (gb m t):=List.Pairwise.filter _ au;refine List.Pairwise.imp_of_mem (fun {a b} aR ag fc=> ?_) h;obtain ⟨r,az⟩:=iz.1 (List.mem_filter.1 aR).2;obtain ⟨s,au⟩:=iz.1 (List.mem_filter.1 ag).2;have fc:Op.bytesLess a.1 b.1=true:=fc;show Op.bytesLess (eK _ _ a.1) (eK _ _ b.1)=true;rw[az,au,lZ]at fc;rw[az,au,jN,jN,lZ];exact fc
theorem W7 (t:List ak) (p:af) (aP:oT p) (au:cg bu t) (ao:t.length<1000000000000):ru (t,c6 p,())=some (t.filter (fun x=> !bI x.1 p),()):=by
 rw[KB t _ (Lx aP.sh) au ao];congr 2;apply List.filter_congr;intro x _;rw[uJ aP.sh]
theorem Yb (t:List ak) (m:a6) (aJ:oT m.2.2.2.2.1) (aU:oT m.2.2.2.2.2.1) (au:cg bu t) (ao:t.length<100000000000) (av: ∀p∈t,m.2.2.2.2.2.1.length+p.1.length<1000000000000):
  Av (m,t,())=some (iA (t.filter fun x=> !bI x.1 m.2.2.2.2.2.1) ((gb m t).map (gn m.2.2.2.2.1 m.2.2.2.2.2.1)),()):=by
 have dd:=List.length_filter_le (fun x:ak=> !bI x.1 m.2.2.2.2.2.1) t;have cM:(gb m t).length<=t.length:=List.length_filter_le _ _;have ds: ∀p∈(gb m t).map (gn m.2.2.2.2.1 m.2.2.2.2.2.1),eB (key:=bu) p.1 (t.filter fun x=> !bI x.1 m.2.2.2.2.2.1)=false:=by
  intro p aP;obtain ⟨q,aN,rfl⟩:=List.mem_map.1 aP;unfold eB;rw[List.any_eq_false];intro b ag;have aa:=(List.mem_filter.1 ag).2;intro e;have e:b.1=eK m.2.2.2.2.1 m.2.2.2.2.2.1 q.1:=of_decide_eq_true e;rw[e,sn]at aa;cases aa
 have aqp: ∀p∈t.filter (fun x=> !bI x.1 m.2.2.2.2.2.1),∀q∈(gb m t).map (gn m.2.2.2.2.1 m.2.2.2.2.2.1),p.1≠q.1:=by
  intro p aP q aN e;have:=ds q aN;unfold eB at this;rw[List.any_eq_false]at this;exact this p aP (decide_eq_true e)
 obtain ⟨r,ai,aq,bb⟩:=YJ (t.filter fun x=> !bI x.1 m.2.2.2.2.2.1) ((gb m t).map (gn m.2.2.2.2.1 m.2.2.2.2.2.1)) (List.Pairwise.filter _ au) (afy au) aqp (by rw[List.length_map];omega);have az:r=iA (t.filter fun x=> !bI x.1 m.2.2.2.2.2.1) ((gb m t).map (gn m.2.2.2.2.1 m.2.2.2.2.2.1)):=
  uM aq (BN _ _ (List.Pairwise.filter _ au)) (fun x=>by rw[bb x,AB ds (Dw au)])
 have hm:=al6 t m.2.2.2.2.1 m.2.2.2.2.2.1 aJ au (by omega) av;unfold gb at ai;unfold Av;simp only[aU.pre,W7 t _ aU au (by omega),hm,ai,az]
theorem ao8 (t:List ak) (m:a6) (hm:rT m) (aE:m.1=4) (au:cg bu t) (ao:t.length<100000000000) (av: ∀p∈t,m.2.2.2.2.2.1.length+p.1.length<1000000000000):
  Gt (m,t,())=some (oS m t,()):=by
 have ri:=Db (j8 _ hm.from_);have tr:=Db (j8 _ hm.to_);have dd:=List.length_filter_le (fun x:ak=> !bI x.1 m.2.2.2.2.2.1) t;have cM:(gb m t).length<=t.length:=List.length_filter_le _ _;have aB:=Yb t m ri tr au ao av;have ag:h3 m t=(t.filter fun x=> !bI x.1 m.2.2.2.2.2.1).filter fun x=> !bI x.1 m.2.2.2.2.1:=by unfold h3;rw[am aE];rfl
 have ds: ∀p∈(gb m t).map (gn m.2.2.2.2.1 m.2.2.2.2.2.1),eB (key:=bu) p.1 (t.filter fun x=> !bI x.1 m.2.2.2.2.2.1)=false:=by
  intro p aP;obtain ⟨q,aN,rfl⟩:=List.mem_map.1 aP;unfold eB;rw[List.any_eq_false];intro b ag;have aa:=(List.mem_filter.1 ag).2;intro e;have e:b.1=eK m.2.2.2.2.1 m.2.2.2.2.2.1 q.1:=of_decide_eq_true e;rw[e,sn]at aa;cases aa
 have j6:=BN ((gb m t).map (gn m.2.2.2.2.1 m.2.2.2.2.2.1)) (t.filter fun x=> !bI x.1 m.2.2.2.2.2.1) (List.Pairwise.filter _ au);have hlen:=CP ((gb m t).map (gn m.2.2.2.2.1 m.2.2.2.2.2.1)) (t.filter fun x=> !bI x.1 m.2.2.2.2.2.1);rw[List.length_map]at hlen;have ax:=W7 (iA (t.filter fun x=> !bI x.1 m.2.2.2.2.2.1) ((gb m t).map (gn m.2.2.2.2.1 m.2.2.2.2.2.1))) m.2.2.2.2.1 ri j6 (by omega);have he:(iA (t.filter fun x=> !bI x.1 m.2.2.2.2.2.1) ((gb m t).map (gn m.2.2.2.2.1 m.2.2.2.2.2.1))).filter (fun x=> !bI x.1 m.2.2.2.2.1)=oS m t:=by
  refine uM (List.Pairwise.filter _ j6) (Y4 au) (fun x=> ?_);unfold oS;rw[List.mem_filter,AB ds (Dw au),AB X2 (Dw au),ag];constructor
  ·rintro ⟨aa |aa,ad⟩
   ·exact Or.inl (List.mem_filter.2 ⟨aa,ad⟩)
   ·exact Or.inr aa
  ·rintro (h |aa)
   ·obtain ⟨aa,ad⟩:=List.mem_filter.1 h;exact ⟨Or.inl aa,ad⟩
   ·refine ⟨.inr aa,?_⟩;obtain ⟨q,aN,rfl⟩:=List.mem_map.1 aa;have:bI (eK m.2.2.2.2.1 m.2.2.2.2.2.1 q.1) m.2.2.2.2.1=false:=hm.not_both2 sn;show (!bI (eK m.2.2.2.2.1 m.2.2.2.2.2.1 q.1) m.2.2.2.2.1)=true;rw[this];rfl
 unfold Gt;simp only[aB,ri.pre,ax,he]
def gP (m:a6) (p:ak):ak:=bif bU m.2.2.2.1 p.1 then (p.1,p.2.1,m.2.2.2.2.2.2.1,p.2.2.2) else p
theorem aoq (t:List ak) (m:a6) (ao:t.length<1000000000000):TU ((0:Int),m,t,())=some (.inl (t.map (gP m),())):=by
 obtain ⟨r,aa,ad⟩:=bi (b:=Gw) (fun i (o:List ak)=>((i:Int),m,o,())) t.length (fun i o=>o=(t.take i).map (gP m)++t.drop i)
  (fun r=>r=.inl (t.map (gP m),())) (by omega)
  (fun i ab o an=>by
   left;have ax:t.drop i=t[i]::t.drop (i+1):=List.drop_eq_getElem_cons ab;have hlen:((t.take i).map (gP m)).length=i:=by rw[List.length_map,List.length_take];omega
   have mC:o.length=t.length:=by rw[an,List.length_append,hlen,List.length_drop];omega
   have a7:((i:Int)<(t.length:Int)):=by omega
   have aY:((0:Int)<=(i:Int)):=by omega
   have bH:List.getD o i (([]:af),(([]:af),((0:Int),())))=t[i]:=by
    rw[an,ax];exact C1 hlen
   have w:=fK i (by omega);have jI: ∀q,o.set i q=(t.take i).map (gP m)++q::t.drop (i+1):=by
    intro q;rw[an,ax,List.set_append_right _ _ (by omega),hlen,Nat.sub_self];rfl
   have fF:(t.take (i+1)).map (gP m)++t.drop (i+1)=(t.take i).map (gP m)++gP m t[i]::t.drop (i+1):=by
    rw[eZ ab,List.map_append,List.append_assoc];rfl
   refine ⟨_,rfl,?_⟩;rw[fF];unfold Gw gP;simp only[mC,a7,aY,am,aA,b7,bQ,bH,w,Lb,jI];cases bC:bU m.2.2.2.1 (t[i]).1
   ·simp only[aL];rw[an,ax];rfl
   ·simp only[aA];rfl)
  (fun o an=>by
   have mC:o.length=t.length:=by rw[an,List.length_append,List.length_map,List.length_take,List.length_drop];omega
   have a7: ¬((t.length:Int)<(t.length:Int)):=by omega
   rw[List.take_length,List.drop_length,List.append_nil]at an;subst an;refine ⟨_,rfl,?_⟩;unfold Gw;simp only[mC,a7,bj,aL,not_false_eq_true]) t (by simp)
 subst ad;exact aa
theorem Dp (s:ah) (k:af):pR (s,k,())=some (bU s k,()):=by
 have:=Lb s k;unfold xN at this;unfold pR;exact this
theorem aop (t:List ak) (m:a6) (ao:t.length<1000000000000):OX ((t.length:Int),(0:Int),m,t,())=some (.inl (t.map (gP m),())):=by
 obtain ⟨r,aa,ad⟩:=bi (b:=An) (fun i (o:List ak)=>((t.length:Int),(i:Int),m,o,())) t.length (fun i o=>o=(t.take i).map (gP m)++t.drop i)
  (fun r=>r=.inl (t.map (gP m),())) (by omega)
  (fun i ab o an=>by
   left;have ax:t.drop i=t[i]::t.drop (i+1):=List.drop_eq_getElem_cons ab;have hlen:((t.take i).map (gP m)).length=i:=by rw[List.length_map,List.length_take];omega
   have mC:o.length=t.length:=by rw[an,List.length_append,hlen,List.length_drop];omega
   have a7:((i:Int)<(t.length:Int)):=by omega
   have aY:((0:Int)<=(i:Int)):=by omega
   have bH:List.getD o i (([]:af),(([]:af),((0:Int),())))=t[i]:=by
    rw[an,ax];exact C1 hlen
   have w:=fK i (by omega);have jI: ∀q,o.set i q=(t.take i).map (gP m)++q::t.drop (i+1):=by
    intro q;rw[an,ax,List.set_append_right _ _ (by omega),hlen,Nat.sub_self];rfl
   have fF:(t.take (i+1)).map (gP m)++t.drop (i+1)=(t.take i).map (gP m)++gP m t[i]::t.drop (i+1):=by
    rw[eZ ab,List.map_append,List.append_assoc];rfl
   refine ⟨_,rfl,?_⟩;rw[fF];unfold An gP;simp only[mC,a7,aY,am,aA,b7,bQ,bH,w,Dp,jI];cases bC:bU m.2.2.2.1 (t[i]).1
   ·simp only[aL];rw[an,ax];rfl
   ·simp only[aA];rfl)
  (fun o an=>by
   have a7: ¬((t.length:Int)<(t.length:Int)):=by omega
   rw[List.take_length,List.drop_length,List.append_nil]at an;refine ⟨_,rfl,?_⟩;unfold An;simp only[a7,bj,aL,not_false_eq_true,an]) t (by simp)
 subst ad;exact aa
def ht (t:List ak) (m:a6):List ak:=
 if m.1=1 then iW t (m.2.1,m.2.2.1,m.2.2.2.2.2.2.1,())
 else if m.1=2 then t.filter fun p=> !bU (m.2.1,m.2.1++[0],()) p.1
 else if m.1=3 then t.filter fun p=> !bU m.2.2.2.1 p.1
 else if m.1=6 then t.map (gP m)
 else oS m t
theorem afC (k:af) (h:k.length<1000000000000):mK (k,())=some ((k,k++[0],()),())/\oo (k,())=some ((k,k++[0],()),()):=by
 unfold mK oo;have:k.length+([0]:af).length<=bm:=by rw[dV];simp;omega
 simp only[this,am,aA,and_self]
theorem Y7 (s:ah):(fun p:ak=> !([s]:List ah).any (fun s=>bU s p.1))=fun p=> !bU s p.1:=by
 funext p
 simp
theorem Yy (t:List ak) (m:a6) (hm:fL m) (au:cg bu t) (ao:t.length<100000000000) (av: ∀p∈t,p.1.length<1000):
  pK (t,m,())=some (ht t m,())/\rb (t,m,())=some (ht t m,()):=by
 have arT:m.1=1\/m.1=2->m.2.1.length<1000000000000:=fun h=>by
  have hlen:jk.all (fun k=>decide (k.length<100))=true:=by kernel_rfl
  have:=of_decide_eq_true (List.all_eq_true.1 hlen _ (hm.key h));omega
 have room:(([]:List ak).length+t.length)*40<=bm:=by rw[dV];simp;omega
 by_cases aa:m.1=1
 ·have d1:decide (m.1=1)=true:=am aa;have ai:=afH t (m.2.1,m.2.2.1,m.2.2.2.2.2.2.1,()) au (by omega);have aq:=Xa t (m.2.1,m.2.2.1,m.2.2.2.2.2.2.1,()) au (by omega);unfold pK rb Ia ht;rw[if_pos aa];simp only[d1,aA,ai,aq];exact ⟨trivial,rfl⟩
 ·have d1:decide (m.1=1)=false:=bj aa;by_cases ad:m.1=2
  ·have d2:decide (m.1=2)=true:=am ad;obtain ⟨eL,h4⟩:=afC m.2.1 (arT (.inr ad));have ai:=KB t (m.2.1,m.2.1++[0],()) (.inr (ZN _)) au (by omega);have aq:=JH t [(m.2.1,m.2.1++[0],())] (by omega) (by simp);rw[Y7]at aq;unfold pK rb H5 Ky ht;rw[if_neg aa,if_pos ad];simp only[d1,d2,aA,aL,eL,h4,ai,aq,and_self]
  ·have d2:decide (m.1=2)=false:=bj ad;by_cases al:m.1=3
   ·have d3:decide (m.1=3)=true:=am al;have ai:=KB t m.2.2.2.1 (hm.span (.inl al)) au (by omega);have aq:=JH t [m.2.2.2.1] (by omega) (by simp);rw[Y7]at aq;unfold pK rb PU ht;rw[if_neg aa,if_neg ad,if_pos al];simp only[d1,d2,d3,aA,aL,ai,aq,and_self]
   ·have d3:decide (m.1=3)=false:=bj al;by_cases bt:m.1=6
    ·have d6:decide (m.1=6)=true:=am bt;have d4:decide (m.1=4)=false:=bj (by rw[bt];decide);have d5:decide (m.1=5)=false:=bj (by rw[bt];decide);have ai:=aop t m (by omega);have aq:=aoq t m (by omega);unfold pK rb Pu ht;rw[if_neg aa,if_neg ad,if_neg al,if_pos bt];simp only[d1,d2,d3,d4,d5,d6,aA,aL,CZ t (show t.length<1000000000000 by omega),ai,room,am,List.nil_append,aq,and_self]
    ·have lP:Fo m:=by
      rcases hm.kind with h |h |h |h |h |h
      ·exact absurd h aa
      ·exact absurd h ad
      ·exact absurd h al
      ·exact .inl h
      ·exact .inr h
      ·exact absurd h bt
     have an:rT m:=⟨lP,hm.from_ lP,hm.to_ lP,(hm.apart lP).1,(hm.apart lP).2⟩;have ri:=Db (j8 _ an.from_);have tr:=Db (j8 _ an.to_);have hlen:eM.all (fun p=>decide (p.length<=4))=true:=by kernel_rfl
     have lt:=of_decide_eq_true (List.all_eq_true.1 hlen _ an.to_);have gl: ∀p∈t,m.2.2.2.2.2.1.length+p.1.length<1000000000000:=fun p aP=>by have:=av p aP;omega
     have aq:=amq t m lP ri tr au ao gl;have qM:ht t m=oS m t:=by unfold ht;rw[if_neg aa,if_neg ad,if_neg al,if_neg bt]
     rw[qM];refine ⟨?_,aq⟩;unfold pK;simp only[d1,d2,d3,aL];rcases lP with aE |aZ
     ·simp only[am aE,aA,ao8 t m an aE au ao gl]
     ·have d4:decide (m.1=4)=false:=bj (by rw[aZ];decide);have ag:h3 m t=t.filter fun x=> !bI x.1 m.2.2.2.2.2.1:=by unfold h3;rw[d4];rfl
      have:=Yb t m ri tr au ao gl;rw[<-ag]at this;simp only[d4,aL,am aZ,aA,this];rfl
end D
open Go Go.X
namespace D
def gZ (a b:af):Bool:= !decide (a=[])&&(decide (b=[])||Op.bytesLess a b)
def iB (a b:af):af:=bif gZ b a then b else a
def ju (a b:af):af:=bif !(Op.bytesLess a b) then a else b
def hW (s:ah):Bool:= !decide (s.2.1=[])&&(Op.bytesLess s.2.1 s.1||decide (s.2.1=s.1))
theorem anu (a b:af):tH (a,b,())=some (gZ a b,()):=by
 simp only[tH,gZ];cases decide (a=[])<;>cases decide (b=[])<;>rfl
theorem amB (s:ah):ra (s,())=some (hW s,()):=by
 simp only[ra,hW];cases decide (s.2.1=[])<;>rfl
theorem Bc (s:ah):j0 (s,())=some (hW s,()):=by
 simp only[j0,hW];cases decide (s.2.1=[])<;>rfl
def iD (a b:ah):Bool:= !hW (ju a.1 b.1,(iB a.2.1 b.2.1,()))
def ga (a b:ah):ah:=bif iD a b then (ju a.1 b.1,(iB a.2.1 b.2.1,())) else ([97],([97],()))
theorem Xr (a b:af): ∃c,wh (a,b,())=some (c,())/\decide (c<0)=gZ a b:=by
 have Z0: ∀y:af,Al (y,())=some (false,()):=fun y=>by simp[Al]
 simp only[wh];by_cases fc:a=b
 ·subst fc;refine ⟨0,by simp only[cK,aA],?_⟩;unfold gZ;rw[gJ];cases decide (a=[])<;>rfl
 ·by_cases aR:a=[]
  ·refine ⟨1,by simp only[bj fc,aL,am aR,aA],?_⟩;unfold gZ;rw[am aR];rfl
  ·by_cases ag:b=[]
   ·refine ⟨-1,by simp only[bj fc,aL,bj aR,am ag,aA],?_⟩;unfold gZ;rw[bj aR,am ag];rfl
   ·cases ao:Op.bytesLess a b with
    |true=>
     refine ⟨-1,by simp only[bj fc,bj aR,bj ag,aL,Fs,Z0,ao,aA],?_⟩;unfold gZ;rw[bj aR,bj ag,ao];rfl
    |false=>
     refine ⟨1,by simp only[bj fc,bj aR,bj ag,aL,Fs,Z0,ao,Bool.or_false,dr,aA],?_⟩;unfold gZ;rw[bj aR,bj ag,ao];rfl
theorem aoc (a b:af):CU ([a,b],())=some (iB a b,()):=by
 obtain ⟨c,aa,ad⟩:=Xr b a;have b8:(decide ((((List.length ([a,b]:List af)):Int):Int)<(1:Int)))=false:=rfl;have ai:(decide ((0:Int)<(List.length ([a,b]:List af):Int)))=true:=rfl;have aq:(decide ((1:Int)<((List.length ([a,b]:List af)):Int)))=true:=rfl;have bb:(decide ((0:Int)<=(1:Int)))=true:=rfl;have bx:(decide ((2:Int)<((List.length ([a,b]:List af)):Int)))=false:=rfl;have g0:List.getD ([a,b]:List af) 0 []=a:=rfl;have g1:List.getD ([a,b]:List af) (Int.toNat 1) []=b:=rfl;have w:i64.wrap ((1:Int)+1)=2:=rfl;have b1:vf ([a,b],a,1,())=some (.inl ([a,b],iB a b,2,())):=by
  simp only[vf,aq,bb,b7,aA,g1,aa,ad,w];unfold iB;cases gZ b a<;>rfl
 have b2:vf ([a,b],iB a b,2,())=some (.inr (.inl (iB a b,()))):=by
  simp only[vf,bx,aL]
 have h:Ms ([a,b],a,1,())=some (.inl (iB a b,())):=lp (n:=2) (by rw[jM];omega) (by simp only[dR,b1,b2]);simp only[CU,N1,b8,ai,aL,aA,g0,h]
theorem CB (a b:ah):rJ (a,b,())=some (ga a b,()):=by
 simp only[rJ,aoc,Bc];unfold ga iD ju;cases hW _<;>rfl
theorem JW (a b:ah):hW (ga a b)= !iD a b:=by
 unfold ga;cases h:iD a b
 ·rfl
 ·rw[aA];unfold iD at h;rw[Bool.not_eq_true']at h;exact h
theorem Du {a b k:af}:Op.bytesLess k (ju a b)=false↔Op.bytesLess k a=false/\Op.bytesLess k b=false:=by
 unfold ju;cases h:Op.bytesLess a b
 ·simp only[dr,aA];refine ⟨fun aa=>⟨aa,?_⟩,fun aa=>aa.1⟩;cases ad:Op.bytesLess k b
  ·rfl
  ·rcases hg a b with al |al |al
   ·rw[h]at al;cases al
   ·rw[al,ad]at aa;cases aa
   ·rw[e5 ad al]at aa;cases aa
 ·simp only[dt,aL];refine ⟨fun aa=>⟨?_,aa⟩,fun aa=>aa.2⟩;cases ad:Op.bytesLess k a
  ·rfl
  ·rw[e5 ad h]at aa;cases aa
theorem JU {a b k:af}:(iB a b=[]\/Op.bytesLess k (iB a b)=true)↔(a=[]\/Op.bytesLess k a=true)/\(b=[]\/Op.bytesLess k b=true):=by
 unfold iB gZ;by_cases ag:b=[]
 ·subst ag;simp
 ·by_cases aR:a=[]
  ·subst aR;simp[ag]
  ·have e:(bif (!decide (b=[])&&(decide (a=[])||Op.bytesLess b a)) then b else a)=(bif Op.bytesLess b a then b else a):=by
    rw[bj ag,bj aR];rfl
   rw[e];cases h:Op.bytesLess b a
   ·simp only[aL,aR,ag,false_or];refine ⟨fun aa=>⟨aa,?_⟩,fun aa=>aa.1⟩;rcases hg a b with al |al |al
    ·exact e5 aa al
    ·rw[<-al];exact aa
    ·rw[h]at al;cases al
   ·simp only[aA,aR,ag,false_or];exact ⟨fun aa=>⟨e5 aa h,aa⟩,fun aa=>aa.2⟩
theorem eS {s:ah} {k:af}:bU s k=true↔Op.bytesLess k s.1=false/\(s.2.1=[]\/Op.bytesLess k s.2.1=true):=by
 unfold bU;simp only[bB,Bool.not_eq_true',Bool.or_eq_true,db]
theorem yi {a b:ah}:iD a b=true↔ ∃k,bU a k=true/\bU b k=true:=by
 have key: ∀lo ab:af,hW (lo,(ab,()))=false↔(ab=[]\/Op.bytesLess lo ab=true):=fun lo ab=>by
  unfold hW;by_cases h:ab=[]
  ·simp[h]
  ·rw[bj h];simp only[dr,Bool.true_and,Bool.or_eq_false_iff,decide_eq_false_iff_not];constructor
   ·rintro ⟨aa,ad⟩;right;rcases hg lo ab with al |al |al
    ·exact al
    ·exact absurd al.symm ad
    ·rw[aa]at al;cases al
   ·rintro (aa |aa)
    ·exact absurd aa h
    ·exact ⟨hG aa,fun ad=>by rw[ad,gJ]at aa;cases aa⟩
 unfold iD;rw[Bool.not_eq_true',key];constructor
 ·intro h;have aa:=JU.1 h;have ad:=Du.1 (gJ (ju a.1 b.1));exact ⟨ju a.1 b.1,eS.2 ⟨ad.1,aa.1⟩,eS.2 ⟨ad.2,aa.2⟩⟩
 ·rintro ⟨k,aa,ad⟩;obtain ⟨en,a2⟩:=eS.1 aa;obtain ⟨b1,b2⟩:=eS.1 ad;have al:=JU.2 ⟨a2,b2⟩;have aE:=Du.2 ⟨en,b1⟩;rcases al with al |al
  ·exact .inl al
  ·right;rcases hg (ju a.1 b.1) k with aZ |aZ |aZ
   ·exact e5 aZ al
   ·rw[aZ];exact al
   ·rw[aE]at aZ;cases aZ
theorem anw {a b:ah} {k:af} (h:iD a b=true):bU (ga a b) k=true↔bU a k=true/\bU b k=true:=by
 unfold ga;rw[h,aA,eS,eS,eS];show (Op.bytesLess k (ju a.1 b.1)=false/\(iB a.2.1 b.2.1=[]\/_))↔_;rw[Du,JU];constructor
 ·rintro ⟨⟨mb,mS⟩,rN,Bx⟩;exact ⟨⟨mb,rN⟩,mS,Bx⟩
 ·rintro ⟨⟨mb,rN⟩,mS,Bx⟩;exact ⟨⟨mb,mS⟩,rN,Bx⟩
def af3 (m:a6):List ah:=((oc (m,())).map (·.1)).getD []
def tm (p:ah) (m:a6):Bool:=(af3 m).any fun w=>iD w p
end D
open Go Go.X
namespace D
def HK:Nat->Nat
 |0=>0
 |d+1=>6*(1+HK d)
def Rc:Nat->Nat
 |0=>0
 |d+1=>5*HK (d+1)+6*Rc d
end D
open Go Go.X
namespace D
end D
open Go Go.X
namespace D
def sw (q s:ah):Bool:= !(Op.bytesLess q.1 s.1)&&(decide (s.2.1=[])||(!decide (q.2.1=[])&& !(Op.bytesLess s.2.1 q.2.1)))
theorem mJ {a b c:af} (aa:Op.bytesLess b a=false) (ad:Op.bytesLess c b=false):Op.bytesLess c a=false:=by
 cases h:Op.bytesLess c a
 ·rfl
 ·rcases hg a b with al |al |al
  ·rw[e5 h al]at ad;cases ad
  ·rw[<-al,h]at ad;cases ad
  ·rw[aa]at al;cases al
theorem KU {q s:ah} {k:af} (h:sw q s=true) (av:bU q k=true):bU s k=true:=by
 unfold sw at h;rw[bB,Bool.not_eq_true']at h;obtain ⟨aa,ad⟩:=h;obtain ⟨a1,k2⟩:=eS.1 av;refine eS.2 ⟨mJ aa a1,?_⟩;rw[Bool.or_eq_true,db,bB,Bool.not_eq_true',Bool.not_eq_true',decide_eq_false_iff_not]at ad;rcases ad with ad |⟨ad,al⟩
 ·exact .inl ad
 ·right;rcases k2 with k2 |k2
  ·exact absurd k2 ad
  ·rcases hg q.2.1 s.2.1 with aE |aE |aE
   ·exact e5 k2 aE
   ·rw[<-aE];exact k2
   ·rw[al]at aE;cases aE
theorem jY: ∀n,n<=2->HK (n+1)<=300/\Rc n<=400
 |0,_=>by decide
 |1,_=>by decide
 |2,_=>by decide
 |n+3,h=>by omega
end D
open Go Go.X
namespace D
theorem m1 {x:Int} (h:(Lit.int .u8 x).wf=true):0<=x/\x<256:=by
 simp[Lit.wf,IntKind.min,IntKind.max,IntKind.signed,IntKind.bits]at h;omega
abbrev A1:aD:=.pair (.int .u8) (.pair (.int .u8) (.pair (.int .u8) .unit))
abbrev rD:aD:=.pair (.int .u8) (.pair (.int .u8) (.pair (.int .u8) (.pair (.int .u8) (.pair (.int .u8) (.pair (.int .u8) .unit)))))
abbrev ZH:aD:=.pair (.list A1) (.pair (.pair (.list rD) (.pair (.list rD) (.pair (.list rD) (.pair (.list rD) .unit)))) (.pair (.int .u8) .unit))
theorem DS {B:aD->Nat} (cG:B rD=6) {l:List oF} (h:aD.good B (.list rD) l):(∀y∈l,rn y)/\l.length<1000000000000000000:=by
 obtain ⟨aa,ad⟩:=h;refine ⟨fun x aw=> ?_,?_⟩
 ·have h:=ad x aw;exact ⟨⟨m1 h.1,m1 h.2.1,m1 h.2.2.1,m1 h.2.2.2.1⟩,m1 h.2.2.2.2.1,m1 h.2.2.2.2.2.1⟩
 ·rw[cG]at aa;unfold reachBytes at aa;omega
theorem ao4 {B:aD->Nat} (cG:B A1=3) {l:List fa} (h:aD.good B (.list A1) l):(∀y∈l,tB y)/\l.length<1000000000000000000:=by
 obtain ⟨aa,ad⟩:=h;refine ⟨fun x aw=> ?_,?_⟩
 ·have h:=ad x aw;exact ⟨m1 h.1,m1 h.2.1,m1 h.2.2.1⟩
 ·rw[cG]at aa;unfold reachBytes at aa;omega
theorem af0 {B:aD->Nat} (al:B A1=3) (bt:B rD=6) {x:eg} (h:aD.good B ZH x):yA x:=
 ⟨⟨DS bt h.2.1.1,DS bt h.2.1.2.1,DS bt h.2.1.2.2.1,DS bt h.2.1.2.2.2.1⟩,ao4 al h.1,m1 h.2.2.1⟩
inductive Src where
 |gen (v:af) (n:Int)
 |gone
 |old (k:af) (st:Option Int)
def ek (m:a6) (k:af):Src:=
 if m.1=1 then (if m.2.1=k then .gen m.2.2.1 m.2.2.2.2.2.2.1 else .old k none)
 else if m.1=2 then (if m.2.1=k then .gone else .old k none)
 else if m.1=3 then (if bU m.2.2.2.1 k=true then .gone else .old k none)
 else if m.1=6 then .old k (if bU m.2.2.2.1 k=true then some m.2.2.2.2.2.2.1 else none)
 else if m.1=4/\bI k m.2.2.2.2.1=true then .gone
 else if bI k m.2.2.2.2.2.1=true then .old (eK m.2.2.2.2.2.1 m.2.2.2.2.1 k) none
 else .old k none
def nL (s:Src) (t:List ak) (x:ak):Prop:=
 match s with
 | .gen v n=>x=(x.1,v,n,())
 | .gone=>False
 | .old k st=> ∃y∈t,y.1=k/\x=(x.1,y.2.1,st.getD y.2.2.1,())
theorem xZ {t:List ak} {x:ak}:nL (.old x.1 none) t x↔x∈t:=by
 constructor
 ·rintro ⟨y,bf,aa,ad⟩;have:x=y:=by rw[ad,<-aa];rfl
  rw[this];exact bf
 ·intro h;exact ⟨x,h,rfl,rfl⟩
theorem yc (k x:af):bU (k,k++[0],()) x=decide (x=k):=by
 have cf:k++[0]≠[]:=by simp
 have key: ∀k x:af,(!Op.bytesLess x k&&Op.bytesLess x (k++[0]))=decide (x=k):=by
  intro k
  induction k with
  |nil=>
   intro x;cases x with
   |nil=>rfl
   |cons b x=>
    have h:Op.bytesLess (b::x) [0]=false:=by
     cases x<;>simp[Op.bytesLess]
    have ad:Op.bytesLess (b::x) []=false:=rfl;show (!Op.bytesLess (b::x) []&&Op.bytesLess (b::x) [0])=_;rw[h,ad];simp
  |cons a k aO=>
   intro x;cases x with
   |nil=>rfl
   |cons b x=>
    show (!(decide (b<a)||(b==a&&Op.bytesLess x k))&&(decide (b<a)||(b==a&&Op.bytesLess x (k++[0]))))=_;by_cases aa:b<a
    ·have:b≠a:=by intro e;rw[e]at aa;exact absurd aa (UInt8.lt_irrefl a)
     simp[aa,this]
    ·by_cases ad:b=a
     ·subst ad;have:=aO x;simp only[aa,decide_false,Bool.false_or,beq_self_eq_true,Bool.true_and,this,List.cons.injEq,true_and]
     ·simp[aa,ad]
 have:=key k x;unfold bU;rw[bj cf,Bool.false_or];exact this
theorem fL.mv {m:a6} (hm:fL m) (aa:m.1≠1) (ad:m.1≠2) (al:m.1≠3) (bt:m.1≠6):rT m:=by
 have lP:Fo m:=by
  rcases hm.kind with h |h |h |h |h |h
  ·exact absurd h aa
  ·exact absurd h ad
  ·exact absurd h al
  ·exact .inl h
  ·exact .inr h
  ·exact absurd h bt
 exact ⟨lP,hm.from_ lP,hm.to_ lP,(hm.apart lP).1,(hm.apart lP).2⟩
theorem Lf {t:List ak} {m:a6} (hm:fL m) (au:cg bu t) (x:ak):x∈ht t m↔nL (ek m x.1) t x:=by
 unfold ht ek;by_cases aa:m.1=1
 ·rw[if_pos aa,if_pos aa,aol];by_cases av:m.2.1=x.1
  ·rw[if_pos av];constructor
   ·rintro (h |⟨-,h⟩)
    ·rw[h];rfl
    ·exact absurd av.symm h
   ·intro h;have h:x=(x.1,m.2.2.1,m.2.2.2.2.2.2.1,()):=h;left;rw[av];exact h
  ·rw[if_neg av,xZ];constructor
   ·rintro (h |⟨h,-⟩)
    ·exact absurd (by rw[h]) av
    ·exact h
   ·intro h;exact .inr ⟨h,fun e=>av e.symm⟩
 ·rw[if_neg aa,if_neg aa];by_cases ad:m.1=2
  ·rw[if_pos ad,if_pos ad,List.mem_filter,yc];by_cases av:m.2.1=x.1
   ·rw[if_pos av];constructor
    ·rintro ⟨-,h⟩;rw[am av.symm]at h;cases h
    ·exact False.elim
   ·rw[if_neg av,xZ,bj (fun e:x.1=m.2.1=>av e.symm)];simp
  ·rw[if_neg ad,if_neg ad];by_cases al:m.1=3
   ·rw[if_pos al,if_pos al,List.mem_filter];cases bC:bU m.2.2.2.1 x.1
    ·rw[if_neg (by simp),xZ];simp
    ·rw[if_pos rfl];constructor
     ·rintro ⟨-,h⟩;cases h
     ·exact False.elim
   ·rw[if_neg al,if_neg al];by_cases bt:m.1=6
    ·rw[if_pos bt,if_pos bt,List.mem_map];have zI: ∀y:ak,(gP m y).1=y.1:=fun y=>by unfold gP;cases bU m.2.2.2.1 y.1<;>rfl
     have lW: ∀y:ak,gP m y=(y.1,y.2.1,(if bU m.2.2.2.1 y.1=true then some m.2.2.2.2.2.2.1 else none).getD y.2.2.1,()):=fun y=>by
      unfold gP;cases bU m.2.2.2.1 y.1<;>rfl
     constructor
     ·rintro ⟨y,bf,rfl⟩;refine ⟨y,bf,(zI y).symm,?_⟩;rw[zI y];exact lW y
     ·rintro ⟨y,bf,ai,aq⟩;refine ⟨y,bf,?_⟩;rw[lW y,aq,ai]
    ·rw[if_neg bt,if_neg bt];have an:=hm.mv aa ad al bt;unfold oS;rw[AB X2 (Dw au)];have ag:x∈h3 m t↔x∈t/\bI x.1 m.2.2.2.2.2.1=false/\ ¬(m.1=4/\bI x.1 m.2.2.2.2.1=true):=by
      unfold h3;by_cases aE:m.1=4
      ·rw[am aE,aA,List.mem_filter,List.mem_filter];cases bI x.1 m.2.2.2.2.2.1<;>cases bI x.1 m.2.2.2.2.1<;>simp[aE]
      ·rw[bj aE,aL,List.mem_filter];cases bI x.1 m.2.2.2.2.2.1<;>simp[aE]
     have gX:x∈(gb m t).map (gn m.2.2.2.2.1 m.2.2.2.2.2.1)↔bI x.1 m.2.2.2.2.2.1=true/\ ∃y∈t,y.1=eK m.2.2.2.2.2.1 m.2.2.2.2.1 x.1/\x=(x.1,y.2.1,y.2.2.1,()):=by
      rw[List.mem_map];constructor
      ·rintro ⟨y,bf,rfl⟩;obtain ⟨bf,aJ⟩:=List.mem_filter.1 bf;refine ⟨sn,y,bf,?_,rfl⟩;obtain ⟨r,az⟩:=iz.1 aJ;show y.1=eK _ _ (eK _ _ y.1);rw[az,jN,jN]
      ·rintro ⟨ag,y,bf,ai,aq⟩;obtain ⟨r,az⟩:=iz.1 ag;rw[az,jN]at ai;refine ⟨y,List.mem_filter.2 ⟨bf,?_⟩,?_⟩
       ·show bI y.1 _=true;rw[ai];exact x9 _ _
       ·show (eK _ _ y.1,y.2.1,y.2.2.1,())=x;rw[ai,jN,<-az];exact aq.symm
     rw[ag,gX];by_cases aE:m.1=4/\bI x.1 m.2.2.2.2.1=true
     ·rw[if_pos aE];constructor
      ·rintro (⟨-,-,h⟩|⟨h,-⟩)
       ·exact absurd aE h
       ·rw[an.not_both aE.2]at h;cases h
      ·exact False.elim
     ·rw[if_neg aE];cases bC:bI x.1 m.2.2.2.2.2.1
      ·rw[if_neg (by simp),xZ];simp[aE]
      ·rw[if_pos rfl];constructor
       ·rintro (⟨-,h,-⟩|⟨-,h⟩)
        ·cases h
        ·exact h
       ·intro h;exact .inr ⟨rfl,h⟩
theorem K2 {t:List ak} {m:a6} (au:cg bu t):cg bu (ht t m):=by
 unfold ht;split
 ·unfold iW;exact cg.ins au.wo (Zb _ _)
 ·split
  ·exact List.Pairwise.filter _ au
  ·split
   ·exact List.Pairwise.filter _ au
   ·split
    ·refine List.pairwise_map.2 ?_;refine List.Pairwise.imp (fun {a b} h=> ?_) au;have zI: ∀y:ak,(gP m y).1=y.1:=fun y=>by unfold gP;cases bU m.2.2.2.1 y.1<;>rfl
     show Op.bytesLess (gP m a).1 (gP m b).1=true;rw[zI,zI];exact h
    ·exact Y4 au
theorem aoR (t:List ak) (m:a6):(ht t m).length<=2*t.length+1:=by
 unfold ht;split
 ·have:=YO t (m.2.1,m.2.2.1,m.2.2.2.2.2.2.1,());omega
 ·split
  ·have:=List.length_filter_le (fun p:ak=> !bU (m.2.1,m.2.1++[0],()) p.1) t;omega
  ·split
   ·have:=List.length_filter_le (fun p:ak=> !bU m.2.2.2.1 p.1) t;omega
   ·split
    ·rw[List.length_map];omega
    ·have:=aoO m t;omega
def u5 (t:List ak):List a6->List ak
 |[]=>t
 |m::r=>ht (u5 t r) m
def fu (t:List ak) (l:List a6):List ak:=l.foldl ht t
theorem Ks (t:List ak) (l:List a6) (m:a6):fu t (l++[m])=ht (fu t l) m:=by
 unfold fu;rw[List.foldl_append];rfl
theorem K1 (t:List ak): ∀r:List a6,u5 t r=fu t r.reverse
 |[]=>rfl
 |m::r=>by
  rw[List.reverse_cons,Ks,<-K1 t r];rfl
theorem xX {t:List ak} (au:cg bu t): ∀l:List a6,cg bu (fu t l):=by
 intro l
 induction l generalizing t with
 |nil=>exact au
 |cons m l aO=>exact aO (K2 au)
theorem Yw (l:List a6): ∀t:List ak,(fu t l).length+1<=2^l.length*(t.length+1):=by
 induction l with
 |nil=>intro t;simp[fu]
 |cons m l aO=>
  intro t;have aa:=aO (ht t m);have ad:=aoR t m;have al:2^l.length*((ht t m).length+1)<=2^l.length*(2*t.length+1+1):=Nat.mul_le_mul_left _ (by omega);have aE:2^(m::l).length*(t.length+1)=2^l.length*(2*t.length+1+1):=by
   rw[List.length_cons,Nat.pow_succ,Nat.mul_assoc,show 2*(t.length+1)=2*t.length+1+1 by omega]
  rw[aE];exact Nat.le_trans aa al
def iH (st:Option Int):Src->Src
 | .gen v n=>.gen v (st.getD n)
 | .gone=>.gone
 | .old k aV=>.old k (st.or aV)
def eC:List a6->af->Src
 |[],k=>.old k none
 |m::r,k=>match ek m k with
  | .gen v n=>.gen v n
  | .gone=>.gone
  | .old k' st=>iH st (eC r k')
theorem Zl (a b:Option Int) (d:Int):(a.or b).getD d=a.getD (b.getD d):=by
 cases a<;>cases b<;>rfl
theorem Yt {t:List ak} (au:cg bu t): ∀(r:List a6),(∀m∈r,fL m)-> ∀x,x∈u5 t r↔nL (eC r x.1) t x
 |[],_,x=>by
  show x∈t↔nL (.old x.1 none) t x;rw[xZ]
 |m::r,h,x=>by
  have az:cg bu (u5 t r):=by rw[K1];exact xX au _
  have aO:=Yt au r (fun n aQ=>h n (List.mem_cons_of_mem _ aQ));show x∈ht (u5 t r) m↔_;rw[Lf (h m List.mem_cons_self) az];unfold eC;cases hm:ek m x.1 with
  |gen v n=>exact Iff.rfl
  |gone=>exact Iff.rfl
  |old k st=>
   show (∃y∈u5 t r,y.1=k/\x=(x.1,y.2.1,st.getD y.2.2.1,()))↔nL (iH st (eC r k)) t x;cases az:eC r k with
   |gen v n=>
    show _↔x=(x.1,v,st.getD n,());constructor
    ·rintro ⟨y,bf,ai,aq⟩;have:=(aO y).1 bf;rw[ai,az]at this;have this:y=(y.1,v,n,()):=this;rw[aq,this]
    ·intro e;refine ⟨(k,v,n,()),(aO _).2 ?_,rfl,e⟩;show nL (eC r k) t _;rw[az];rfl
   |gone=>
    show _↔False;constructor
    ·rintro ⟨y,bf,ai,aq⟩;have:=(aO y).1 bf;rw[ai,az]at this;exact this
    ·exact False.elim
   |old k2 dC=>
    show _↔ ∃z∈t,z.1=k2/\x=(x.1,z.2.1,(st.or dC).getD z.2.2.1,());constructor
    ·rintro ⟨y,bf,ai,aq⟩;have:=(aO y).1 bf;rw[ai,az]at this;obtain ⟨z,bz,f1,f2⟩:=this;refine ⟨z,bz,f1,?_⟩;rw[Zl,aq,f2]
    ·rintro ⟨z,bz,f1,f2⟩;refine ⟨(k,z.2.1,dC.getD z.2.2.1,()),(aO _).2 ?_,rfl,?_⟩
     ·show nL (eC r k) t _;rw[az];exact ⟨z,bz,f1,rfl⟩
     ·rw[Zl]at f2;exact f2
theorem KH {t:List ak} (au:cg bu t) {l:List a6} (h: ∀m∈l,fL m) (x:ak):x∈fu t l↔nL (eC l.reverse x.1) t x:=by
 have:=Yt au l.reverse (fun m hm=>h m (List.mem_reverse.1 hm)) x;rw[K1,List.reverse_reverse]at this;exact this
theorem X7 {t u:List ak} (au:cg bu t) (hu:cg bu u) {l:List a6} (h: ∀m∈l,fL m) (x:ak)
  (av: ∀k st,eC l.reverse x.1=.old k st-> ∀y:ak,y.1=k->(y∈t↔y∈u)):x∈fu t l↔x∈fu u l:=by
 rw[KH au h,KH hu h];cases e:eC l.reverse x.1 with
 |gen v n=>exact Iff.rfl
 |gone=>exact Iff.rfl
 |old k st=>
  constructor
  ·rintro ⟨y,bf,aa,ad⟩;exact ⟨y,(av k st e y aa).1 bf,aa,ad⟩
  ·rintro ⟨y,bf,aa,ad⟩;exact ⟨y,(av k st e y aa).2 bf,aa,ad⟩
theorem Yf {s x:ah} (h:n9 (s,x,())=some (true,())) {k:af} (av:bU x k=true):bU s k=true:=by
 have aw:hW x=false:=by
  unfold hW;obtain ⟨a1,k2⟩:=eS.1 av;rcases k2 with k2 |k2
  ·rw[am k2];rfl
  ·have:Op.bytesLess x.1 x.2.1=true:=by
    rcases hg x.1 k with al |al |al
    ·exact e5 al k2
    ·rw[al];exact k2
    ·rw[a1]at al;cases al
   have ad:decide (x.2.1=x.1)=false:=bj (fun e=>jl this e.symm);rw[hG this,ad];simp
 simp only[n9,amB,aw,dr,aA]at h;cases au:hW s with
 |true=>rw[au]at h;simp only[dt,aL]at h;cases h
 |false=>
  rw[au]at h;simp only[dr,aA]at h;cases eH:(Op.bytesLess s.1 x.1||decide ((s.1:af)=x.1)) with
  |false=>rw[eH]at h;cases h
  |true=>
   rw[eH]at h;simp only[aA,anu]at h;have aqW:Op.bytesLess x.1 s.1=false:=by
    rcases Bool.or_eq_true_iff.1 eH with aa |aa
    ·exact hG aa
    ·rw[of_decide_eq_true aa];exact gJ _
   have iw:gZ s.2.1 x.2.1=false:=by
    cases ao:gZ s.2.1 x.2.1
    ·rfl
    ·rw[ao]at h;cases h
   refine KU ?_ av;unfold sw;rw[aqW];by_cases e:s.2.1=[]
   ·rw[am e];rfl
   ·unfold gZ at iw;rw[bj e]at iw ⊢;simp only[dr,Bool.true_and,Bool.or_eq_false_iff]at iw;simp[iw.1,iw.2]
theorem rL: ∀p∈eM,p.length<=4:=by
 have h:eM.all (fun p=>decide (p.length<=4))=true:=by kernel_rfl
 exact fun p aP=>of_decide_eq_true (List.all_eq_true.1 h p aP)
theorem YT {m:a6} {k v:af} {n:Int} (h:ek m k=.gen v n):m.1=1/\m.2.1=k:=by
 unfold ek at h;by_cases aa:m.1=1
 ·rw[if_pos aa]at h;by_cases av:m.2.1=k
  ·exact ⟨aa,av⟩
  ·rw[if_neg av]at h;cases h
 ·rw[if_neg aa]at h;split at h
  ·split at h<;>cases h
  ·split at h
   ·split at h<;>cases h
   ·split at h
    ·cases h
    ·split at h
     ·cases h
     ·split at h<;>cases h
theorem KS {m:a6} {k k':af} {st:Option Int} (h:ek m k=.old k' st):
  k'=k\/(m.1≠1/\m.1≠2/\m.1≠3/\m.1≠6/\bI k m.2.2.2.2.2.1=true/\k'=eK m.2.2.2.2.2.1 m.2.2.2.2.1 k):=by
 unfold ek at h;by_cases aa:m.1=1
 ·rw[if_pos aa]at h;split at h
  ·cases h
  ·injection h with ai aq;exact .inl ai.symm
 ·rw[if_neg aa]at h;by_cases ad:m.1=2
  ·rw[if_pos ad]at h;split at h
   ·cases h
   ·injection h with ai aq;exact .inl ai.symm
  ·rw[if_neg ad]at h;by_cases al:m.1=3
   ·rw[if_pos al]at h;split at h
    ·cases h
    ·injection h with ai aq;exact .inl ai.symm
   ·rw[if_neg al]at h;by_cases bt:m.1=6
    ·rw[if_pos bt]at h;injection h with ai aq;exact .inl ai.symm
    ·rw[if_neg bt]at h;split at h
     ·cases h
     ·split at h
      ·rename_i ag;injection h with ai aq
       exact .inr ⟨aa,ad,al,bt,ag,ai.symm⟩
      ·injection h with ai aq;exact .inl ai.symm
theorem DJ {t f k:af} (ag:bI k t=true):k.length+f.length=(eK t f k).length+t.length:=by
 obtain ⟨r,az⟩:=iz.1 ag;rw[az,jN,List.length_append,List.length_append];omega
theorem aoy {t:List ak} {m:a6} (hm:fL m) (au:cg bu t) {B:Nat} (cG:100<=B) (h: ∀p∈t,p.1.length<=B): ∀x∈ht t m,x.1.length<=B+4:=by
 intro x aw;have:=(Lf hm au x).1 aw;cases e:ek m x.1 with
 |gen v n=>
  obtain ⟨aa,ad⟩:=YT e;have:=(tT _ (hm.key (.inl aa))).2;rw[ad]at this;omega
 |gone=>rw[e]at this;exact this.elim
 |old k st=>
  rw[e]at this;obtain ⟨y,bf,ai,aq⟩:=this;have bf:=h y bf;rcases KS e with aa |⟨aa,ad,al,bt,ag,aE⟩
  ·rw[ai,aa]at bf;omega
  ·have an:=hm.mv aa ad al bt;have dd:=rL _ an.to_;have:=DJ (f:=m.2.2.2.2.1) ag;rw[ai,aE]at bf;omega
theorem X6 {l:List a6} (h: ∀m∈l,fL m): ∀{t:List ak} {B:Nat},cg bu t->100<=B->(∀p∈t,p.1.length<=B)-> ∀x∈fu t l,x.1.length<=B+4*l.length:=by
 induction l with
 |nil=>intro t B _ _ ag x aw;exact ag x aw
 |cons m l aO=>
  intro t B au cG ag x aw;have:=aO (fun n aQ=>h n (List.mem_cons_of_mem _ aQ)) (K2 (m:=m) au) (B:=B+4) (by omega) (aoy (h m List.mem_cons_self) au cG ag) x aw;rw[List.length_cons];omega
theorem aof {m:a6} {s:ah} (hm:hr m) (ao:kc (m,s,())=some (true,())):
  (m.1=1->bU s m.2.1=true)/\(m.1≠1->m.1≠2->m.1≠3->m.1≠6-> ∀k,bI k m.2.2.2.2.2.1=true->bU s k=true):=by
 have cJ:=hm.ok;obtain ⟨-,R,W,-,kz,-,lL,az,hw⟩:=aoi hm;have aB: ∀x∈W,n9 (s,x,())=some (true,()):=by
  intro x aw;exact al1 kz lL az hw ao x (List.mem_append_right _ aw)
 constructor
 ·intro aa;have av:=cJ.key (.inl aa);have:W=[(m.2.1,m.2.1++[0],())]:=by
   have d1:decide (m.1=1)=true:=am aa;simp only[kr,mq,d1,aA,(uI av).2]at lL;exact (congrArg Prod.fst (Option.some.inj lL)).symm
  refine Yf (aB _ (by rw[this];exact List.mem_cons_self)) ?_;rw[yc];simp
 ·intro aa ad al bt k av;have an:=cJ.mv aa ad al bt;obtain ⟨gD,hB,pI⟩:=kM _ (j8 _ an.from_);obtain ⟨ar,aM,bF⟩:=kM _ (j8 _ an.to_);have d1:decide (m.1=1)=false:=bj aa;have d2:decide (m.1=2)=false:=bj ad;have:c6 m.2.2.2.2.2.1∈W:=by
   rcases an.kind with aE |aZ
   ·have d4:decide (m.1=4)=true:=am aE;simp only[kr,mq,d1,d2,d4,aA,aL,hB,aM]at lL;have:W=_:=(congrArg Prod.fst (Option.some.inj lL)).symm;rw[this];simp
   ·have d4:decide (m.1=4)=false:=bj (by omega);have d5:decide (m.1=5)=true:=am aZ;simp only[kr,mq,d1,d2,d4,d5,aA,aL,hB,aM]at lL;have:W=_:=(congrArg Prod.fst (Option.some.inj lL)).symm;rw[this];simp
  refine Yf (aB _ this) ?_;rw[uJ bF];exact av
def nE (s:ah) (t:List ak):Prop:= ∀p∈t,bU s p.1=true
theorem ae8 {t:List ak} {m:a6} {s:ah} (hm:hr m) (ao:kc (m,s,())=some (true,())) (au:cg bu t) (h:nE s t):nE s (ht t m):=by
 intro x aw;have:=(Lf hm.ok au x).1 aw;obtain ⟨g1,g2⟩:=aof hm ao;cases e:ek m x.1 with
 |gen v n=>
  obtain ⟨aa,ad⟩:=YT e;rw[<-ad];exact g1 aa
 |gone=>rw[e]at this;exact this.elim
 |old k st=>
  rw[e]at this;obtain ⟨y,bf,ai,aq⟩:=this;rcases KS e with aa |⟨aa,ad,al,bt,ag,aE⟩
  ·rw[<-aa,<-ai];exact h y bf
  ·exact g2 aa ad al bt _ ag
theorem aoQ {l:List a6} {s:ah} (h: ∀m∈l,hr m/\kc (m,s,())=some (true,())): ∀{t:List ak},cg bu t->nE s t->nE s (fu t l):=by
 induction l with
 |nil=>intro t _ aU;exact aU
 |cons m l aO=>
  intro t au aU;have hm:=h m List.mem_cons_self;exact aO (fun n aQ=>h n (List.mem_cons_of_mem _ aQ)) (K2 au) (ae8 hm.1 hm.2 au aU)
def m8 (ab:af):af->List af->List ah
 |lo,[]=>[(lo,ab,())]
 |lo,p::m=>(lo,p,())::m8 ab p m
theorem r4 (ab:af): ∀(m:List af) (lo:af),(m8 ab lo m).length=m.length+1
 |[],_=>rfl
 |p::m,lo=>by
  show (m8 ab p m).length+1=_;rw[r4 ab m p];rfl
theorem Ln (ab:af): ∀(m:List af) (lo:af),∀r∈m8 ab lo m,r.1=lo\/r.1∈m
 |[],lo,r,h=>by
  obtain rfl:=List.mem_singleton.1 h;exact .inl rfl
 |p::m,lo,r,h=>by
  rcases List.mem_cons.1 h with rfl |h
  ·exact .inl rfl
  ·rcases Ln ab m p r h with h |h
   ·exact .inr (by rw[h];exact List.mem_cons_self)
   ·exact .inr (List.mem_cons_of_mem _ h)
abbrev Sep (q r:ah):Prop:=q.2.1≠[]/\Op.bytesLess r.1 q.2.1=false
theorem La (ab:af): ∀(m:List af) (lo:af),(∀p∈m,p≠[])->(m.Pairwise fun a b=>Op.bytesLess a b=true)->(m8 ab lo m).Pairwise Sep
 |[],lo,_,_=>List.pairwise_singleton _ _
 |p::m,lo,aa,ad=>by
  have al:=List.pairwise_cons.1 ad;refine List.pairwise_cons.2 ⟨fun r az=>⟨aa p List.mem_cons_self,?_⟩,La ab m p (fun q aN=>aa q (List.mem_cons_of_mem _ aN)) al.2⟩;show Op.bytesLess r.1 p=false;rcases Ln ab m p r az with h |h
  ·rw[h];exact gJ _
  ·exact hG (al.1 _ h)
def ho (k:af):List af->Nat
 |[]=>0
 |p::m=>if Op.bytesLess k p=true then 0 else 1+ho k m
theorem Zv (ab:af) (k:af): ∀(m:List af) (lo:af) (j:Nat),(∀p∈m,p≠[])->(m.Pairwise fun a b=>Op.bytesLess a b=true)->j<m.length+1->
  bU (List.getD (m8 ab lo m) j cO) k=true->j=ho k m
 |[],lo,j,_,_,ay,_=>by
  simp at ay;subst ay;rfl
 |p::m,lo,0,aa,ad,_,h=>by
  have h:bU (lo,p,()) k=true:=h;rcases (eS.1 h).2 with h |h
  ·exact absurd h (aa p List.mem_cons_self)
  ·unfold ho;rw[if_pos h]
 |p::m,lo,j+1,aa,ad,ay,h=>by
  have al:=List.pairwise_cons.1 ad;have h:bU (List.getD (m8 ab p m) j cO) k=true:=h;have aO:=Zv ab k m p j (fun q aN=>aa q (List.mem_cons_of_mem _ aN)) al.2 (by simp at ay;omega) h;have eH:Op.bytesLess k p=false:=by
   have nY:j<(m8 ab p m).length:=by rw[r4];simp at ay;omega
   have hm:=Ln ab m p _ (List.getElem_mem nY);rw[cn nY]at h;have av:=(eS.1 h).1;rcases hm with e |e
   ·rw[e]at av;exact av
   ·exact mJ (hG (al.1 _ e)) av
  unfold ho;rw[if_neg (by rw[eH];simp),<-aO];omega
def o7:List (List af)->ah->Bool
 |[],_=>true
 |P::pv,s=>decide (partsOf s (cl P s)=m8 s.2.1 s.1 (cl P s))&&(partsOf s (cl P s)).all fun q=>sw q s&&o7 pv q
theorem an5: ∀pv∈lA,o7 pv cO=true:=by
 have h:lA.all (fun pv=>o7 pv cO)=true:=by kernel_rfl
 exact fun pv aP=>List.all_eq_true.1 h pv aP
theorem Dn {P:List af} {pv:List (List af)} {s:ah} (h:o7 (P::pv) s=true):
  partsOf s (cl P s)=m8 s.2.1 s.1 (cl P s)/\ ∀q∈partsOf s (cl P s),sw q s=true/\o7 pv q=true:=by
 unfold o7 at h;rw[bB,db]at h;refine ⟨h.1,fun q aN=> ?_⟩;have:=List.all_eq_true.1 h.2 q aN;rw[bB]at this;exact this
theorem Lg {P:List af} {s:ah}: ∀p∈cl P s,p≠[]:=by
 intro p aP e;have:=(List.mem_filter.1 aP).2;rw[e]at this;rw[bB,Bool.not_eq_true',Bool.or_eq_false_iff]at this;obtain ⟨⟨aa,ad⟩,al⟩:=this;have:=(eS.1 al).1;cases au:s.1 with
 |nil=>rw[au]at ad;simp at ad
 |cons a x=>rw[au]at aa;cases aa
theorem Dv {P:List af} (h:P.Pairwise fun a b=>Op.bytesLess a b=true) (s:ah):(cl P s).Pairwise fun a b=>Op.bytesLess a b=true:=List.Pairwise.filter _ h
theorem YX: ∀(L:List (List ak×ah)),(L.Pairwise fun a b=>Sep a.2 b.2)->(∀a∈L,cg bu a.1/\nE a.2 a.1)->cg bu (L.flatMap (·.1))
 |[],_,_=>List.Pairwise.nil
 |a::L,aa,ad=>by
  have al:=List.pairwise_cons.1 aa;rw[List.flatMap_cons];refine List.pairwise_append.2 ⟨(ad a List.mem_cons_self).1,YX L al.2 (fun b ag=>ad b (List.mem_cons_of_mem _ ag)),fun x aw y bf=> ?_⟩;obtain ⟨b,ag,bf⟩:=List.mem_flatMap.1 bf;have aw:=(ad a List.mem_cons_self).2 x aw;have bf:=(ad b (List.mem_cons_of_mem _ ag)).2 y bf;obtain ⟨s1,s2⟩:=al.1 b ag;rcases (eS.1 aw).2 with h |h
  ·exact absurd h s1
  ·have bf:=(eS.1 bf).1;have aE:=mJ s2 bf;rcases hg x.1 y.1 with aZ |aZ |aZ
   ·exact aZ
   ·rw[<-aZ,h]at aE;cases aE
   ·rw[e5 aZ h]at aE;cases aE
abbrev ul:bq:=(([]:List ak),(([]:List af),(([]:List Int),(([]:List dY),(([]:List a6),())))))
def cont (ns:List bq):List (List af)->Nat->List ak
 |[],i=>(List.getD ns i ul).1
 |_::pv,i=>fu ((List.getD ns i ul).2.2.1.flatMap fun k=>cont ns pv k.toNat) (List.getD ns i ul).2.2.2.2.1
def low (ns:List bq) (pv:List (List af)) (ks:List Nat):List ak:=ks.flatMap fun k=>cont ns pv k
theorem ow {ns:List bq} {i:Nat} {n:bq} (h:ns[i]? =some n):List.getD ns i ul=n:=by
 unfold List.getD;rw[h];rfl
theorem BS {ns:List bq} {i:Nat} {p:List ak} {piv:List af} {ks:List Nat} {sums:List dY} {buf:List a6} (P:List af) (pv:List (List af))
  (h:ns[i]? =some (p,piv,dM ks,sums,buf,())):cont ns (P::pv) i=fu (low ns pv ks) buf:=by
 show fu ((List.getD ns i ul).2.2.1.flatMap fun k=>cont ns pv k.toNat) (List.getD ns i ul).2.2.2.2.1=_;rw[ow h];show fu ((dM ks).flatMap fun k=>cont ns pv k.toNat) buf=_;unfold dM low;rw[List.flatMap_map];rfl
def clen:Nat->Nat
 |0=>1000
 |d+1=>32*(6*clen d+1)
structure DP (s:ah) (d:Nat) (c:List ak):Prop where
 srt:cg bu c
 sp:nE s c
 len:c.length<=clen d
 key: ∀p∈c,p.1.length<=100+20*d
theorem an2 (L:List (List ak)) (c:Nat) (h: ∀a∈L,a.length<=c):L.flatten.length<=L.length*c:=by
 induction L with
 |nil=>simp
 |cons a L aO=>
  rw[List.flatten_cons,List.length_append,List.length_cons];have aa:=h a List.mem_cons_self;have ad:=aO (fun b ag=>h b (List.mem_cons_of_mem _ ag));rw[Nat.add_mul];omega
theorem ZD {ns:List bq} {pv:List (List af)} {ks:List Nat} {parts:List ah} {d:Nat} {s:ah} (av:ks.length=parts.length) (ao:ks.length<=6)
  (arq:parts.Pairwise Sep) (pk: ∀q∈parts,sw q s=true) (h: ∀j,j<ks.length->DP (List.getD parts j cO) d (cont ns pv (ks.getD j 0))):
  cg bu (low ns pv ks)/\nE s (low ns pv ks)/\(low ns pv ks).length<=6*clen d/\ ∀p∈low ns pv ks,p.1.length<=100+20*d:=by
 have n1: ∀x∈low ns pv ks,∃j,j<ks.length/\x∈cont ns pv (ks.getD j 0):=by
  intro x aw;obtain ⟨k,jf,aw⟩:=List.mem_flatMap.1 aw;obtain ⟨j,ay,rfl⟩:=List.mem_iff_getElem.1 jf;exact ⟨j,ay,by rw[cn ay];exact aw⟩
 refine ⟨?_,?_,?_,?_⟩
 ·have e:low ns pv ks=(List.zip (ks.map fun k=>cont ns pv k) parts).flatMap (·.1):=by
   unfold low;rw[List.flatMap_def,List.flatMap_def];congr 1;rw[List.map_fst_zip (by rw[List.length_map];omega)]
  rw[e];refine YX _ ?_ ?_
  ·have:((List.zip (ks.map fun k=>cont ns pv k) parts).map (·.2)).Pairwise Sep:=by
    rw[List.map_snd_zip (by rw[List.length_map];omega)];exact arq
   exact List.pairwise_map.1 this
  ·intro a aR;obtain ⟨j,ay,rfl⟩:=List.mem_iff_getElem.1 aR;have aaQ:j<ks.length:=by rw[List.length_zip,List.length_map]at ay;omega
   have fP:j<parts.length:=by omega
   have:=h j aaQ;rw[List.getElem_zip];rw[cn aaQ,cn fP]at this;simp only[List.getElem_map];exact ⟨this.srt,this.sp⟩
 ·intro x aw;obtain ⟨j,ay,aw⟩:=n1 x aw;have:=(h j ay).sp x aw;have fP:j<parts.length:=by omega
  rw[cn fP]at this;exact KU (pk _ (List.getElem_mem fP)) this
 ·have e:low ns pv ks=(ks.map fun k=>cont ns pv k).flatten:=by unfold low;rw[List.flatMap_def]
  rw[e];have:=an2 (ks.map fun k=>cont ns pv k) (clen d) (by
   intro a aR;obtain ⟨k,jf,rfl⟩:=List.mem_map.1 aR;obtain ⟨j,ay,rfl⟩:=List.mem_iff_getElem.1 jf;have:=(h j ay).len;rw[cn ay]at this;exact this)
  rw[List.length_map]at this;exact Nat.le_trans this (Nat.mul_le_mul_right _ ao)
 ·intro x aw;obtain ⟨j,ay,aw⟩:=n1 x aw;exact (h j ay).key x aw
theorem gv.cont_ok {ns:List bq} {t:List ak} (aU:cg bu t) (ao:t.length<=1000) (av: ∀p∈t,p.1.length<=100): ∀{pv:List (List af)} {s:ah} {i:Nat},
  (∀q∈pv,q.length<=5)->(∀P∈pv,P.Pairwise fun a b=>Op.bytesLess a b=true)->o7 pv s=true->gv ns t pv s i->DP s pv.length (cont ns pv i)
 |[],s,i,_,_,_,h=>by
  have h:ns[i]? =some (inS s t,[],[],[],[],()):=h;have e:cont ns [] i=inS s t:=by
   show (List.getD ns i ul).1=_;rw[ow h]
  rw[e];have l:=qd s t;refine ⟨List.Pairwise.filter _ aU,fun p aP=>(List.mem_filter.1 aP).2,?_,fun p aP=> ?_⟩
  ·show _<=1000;omega
  ·have:=av p (List.mem_filter.1 aP).1;simp;omega
 |P::pv,s,i,aN,je,bH,⟨ks,sums,buf,aa,ad,al,aE,aZ,bt,dn,hX⟩=>by
  obtain ⟨g1,g2⟩:=Dn bH;have iO:(cl P s).length<=5:=Nat.le_trans (xS P s) (aN P List.mem_cons_self);have lT:(partsOf s (cl P s)).length=ks.length:=by rw[g1,r4,ad]
  obtain ⟨dd,cM,nu,pB⟩:=ZD (ns:=ns) (pv:=pv) (ks:=ks) (parts:=partsOf s (cl P s)) (d:=pv.length) (s:=s) lT.symm (by omega)
   (by rw[g1];exact La _ _ _ Lg (Dv (je P List.mem_cons_self) s)) (fun q aN=>(g2 q aN).1) (fun j ay=>by
    have fP:j<(partsOf s (cl P s)).length:=by omega
    have aqB:o7 pv (List.getD (partsOf s (cl P s)) j cO)=true:=by
     rw[cn fP];exact (g2 _ (List.getElem_mem fP)).2
    exact gv.cont_ok aU ao av (fun q lU=>aN q (List.mem_cons_of_mem _ lU)) (fun q lU=>je q (List.mem_cons_of_mem _ lU)) aqB (hX j ay).1)
  rw[BS P pv aa];have aq1: ∀m∈buf,fL m:=fun m hm=>(dn m hm).1.ok
  refine ⟨xX dd buf,aoQ dn dd cM,?_,?_⟩
  ·have:=Yw buf (low ns pv ks);have apN:2^buf.length<=2^5:=Nat.pow_le_pow_right (by omega) bt;have aE:2^buf.length*((low ns pv ks).length+1)<=2^5*(6*clen pv.length+1):=Nat.mul_le_mul apN (by omega);show _<=32*(6*clen pv.length+1);omega
  ·intro x aw;have:=X6 aq1 dd (by omega) pB x aw;rw[List.length_cons];omega
def bn (bk k:af) (o:Option Int):tW:=(false,false,bk,[],0,k,o.isSome,o.getD 0,())
theorem YZ (bk k:af) (o:Option Int) (n:Int):wY (n,bn bk k o)=some (bn bk k (o.or (some n))):=by
 cases o<;>rfl
theorem ao9 {k t f:af} (av:k.length<=1000000) (aJ:f.length<=4):rq (k,t,f,())=some (bif bI k t then (eK t f k,true,()) else ([],false,())):=
 C3 k t f (by omega)
theorem Y8 (m:a6) (bk k:af) (o:Option Int) (av:k.length<=1000000) (ag:m.2.2.2.2.1.length<=4):
  rv (m,bn bk k o)=some (false,bn bk (if bI k m.2.2.2.2.2.1=true then eK m.2.2.2.2.2.1 m.2.2.2.2.1 k else k) o):=by
 have h:=ao9 (t:=m.2.2.2.2.2.1) av ag;simp only[rv,bn,h];cases bI k m.2.2.2.2.2.1<;>rfl
def k3 (m:a6) (bk k:af) (o:Option Int):Bool×tW:=
 match ek m k with
 | .gen v n=>(true,(false,true,bk,v,o.getD n,k,true,o.getD n,()))
 | .gone=>(true,bn bk k o)
 | .old k' st=>(false,bn bk k' (o.or st))
theorem pV (o:Option Int):o.or none=o:=by cases o<;>rfl
theorem afQ {m:a6} (h:m.1=1) (bk k:af) (o:Option Int):wH (m,bn bk k o)=some (k3 m bk k o):=by
 have aa:=YZ bk k o m.2.2.2.2.2.2.1;unfold k3 ek;rw[if_pos h];by_cases av:m.2.1=k
 ·have dc:wY (m.2.2.2.2.2.2.1,false,false,bk,[],0,k,o.isSome,o.getD 0,())=some (bn bk k (o.or (some m.2.2.2.2.2.2.1))):=aa;rw[if_pos av];simp only[wH,bn,av,cK,dt,aL,dc];cases o<;>rfl
 ·rw[if_neg av];simp only[wH,bn,av,decide_false,dr,aA,pV]
theorem afR {m:a6} (h:m.1=2) (bk k:af) (o:Option Int):wI (m,bn bk k o)=some (k3 m bk k o):=by
 unfold k3 ek;rw[if_neg (by omega),if_pos h];by_cases av:m.2.1=k
 ·rw[if_pos av];simp only[wI,bn,av,cK]
 ·rw[if_neg av];simp only[wI,bn,av,decide_false,pV]
theorem afS {m:a6} (h:m.1=3) (bk k:af) (o:Option Int):A5 (m,bn bk k o)=some (k3 m bk k o):=by
 unfold k3 ek;rw[if_neg (by omega),if_neg (by omega),if_pos h];simp only[A5,bn,Dp];cases bU m.2.2.2.1 k
 ·rw[if_neg (by simp)];simp only[pV]
 ·rw[if_pos rfl]
theorem afT {m:a6} (h:m.1=4) (bk k:af) (o:Option Int) (av:k.length<=1000000) (ag:m.2.2.2.2.1.length<=4):A6 (m,bn bk k o)=some (k3 m bk k o):=by
 have ad:rv (m,false,false,bk,[],0,k,o.isSome,o.getD 0,())=_:=Y8 m bk k o av ag;unfold k3 ek;rw[if_neg (by omega),if_neg (by omega),if_neg (by omega),if_neg (by omega)];simp only[A6,bn,anp];cases aa:bI k m.2.2.2.2.1
 ·rw[if_neg (by simp)];simp only[dr,aA,ad];cases bI k m.2.2.2.2.2.1
  ·rw[if_neg (by simp),if_neg (by simp)];simp only[pV,bn]
  ·rw[if_pos rfl,if_pos rfl];simp only[pV,bn]
 ·rw[if_pos ⟨h,rfl⟩];simp only[dt,aL]
theorem af9 {m:a6} (h:m.1=5) (bk k:af) (o:Option Int) (av:k.length<=1000000) (ag:m.2.2.2.2.1.length<=4):rv (m,bn bk k o)=some (k3 m bk k o):=by
 unfold k3 ek;rw[if_neg (by omega),if_neg (by omega),if_neg (by omega),if_neg (by omega),if_neg (fun e:m.1=4/\_=>absurd e.1 (by omega)),Y8 m bk k o av ag];cases bI k m.2.2.2.2.2.1
 ·rw[if_neg (by simp),if_neg (by simp)];simp only[pV]
 ·rw[if_pos rfl,if_pos rfl];simp only[pV]
theorem afU {m:a6} (h:m.1=6) (bk k:af) (o:Option Int):A7 (m,bn bk k o)=some (k3 m bk k o):=by
 have aa:wY (m.2.2.2.2.2.2.1,false,false,bk,[],0,k,o.isSome,o.getD 0,())=_:=YZ bk k o m.2.2.2.2.2.2.1;unfold k3 ek;rw[if_neg (by omega),if_neg (by omega),if_neg (by omega),if_pos h];simp only[A7,bn,Dp];cases bU m.2.2.2.1 k
 ·rw[if_neg (by simp)];simp only[aL,pV]
 ·rw[if_pos rfl];simp only[aA,aa,bn]
def lr (bk:af):Src->mG
 | .gen v n=>(true,true,(bk,v,n,()),[],false,0,())
 | .gone=>(true,false,([],[],0,()),[],false,0,())
 | .old k st=>(false,false,(bk,[],0,()),k,st.isSome,st.getD 0,())
abbrev Dz (bk:af) (s:Src) (t:tW):Prop:=(t.1,t.2.1,(t.2.2.1,t.2.2.2.1,t.2.2.2.2.1,()),t.2.2.2.2.2.1,t.2.2.2.2.2.2.1,t.2.2.2.2.2.2.2.1,())=lr bk s
theorem apk (i:Int) (m:a6) (hm:fL m) (bk k:af) (o:Option Int) (R:tW) (av:k.length<=1000000):
  ∃c p ha,m6 (i,m,(0:Int),false,false,bk,[],0,k,o.isSome,o.getD 0,R)=some (c,p,ha)/\
   ((c=true/\p=0/\ ∃k' st,ek m k=.old k' st/\ha=(false,false,bk,[],0,k',(o.or st).isSome,(o.or st).getD 0,R))\/(c=false/\p=1/\(∀k' st,ek m k≠ .old k' st)/\Dz bk (iH o (ek m k)) ha.2.2.2.2.2.2.2.2)):=by
 have fin: ∀x:Bool×tW,x=k3 m bk k o->
   ∃c p ha,nR ((!x.1),(-1:Int),x.2.1,x.2.2.1,x.2.2.2.1,x.2.2.2.2.1,x.2.2.2.2.2.1,x.2.2.2.2.2.2.1,x.2.2.2.2.2.2.2.1,x.2.2.2.2.2.2.2.2.1,R.1,R.2.1,R.2.2.1,R.2.2.2.1,R.2.2.2.2.1,R.2.2.2.2.2.1,R.2.2.2.2.2.2.1,R.2.2.2.2.2.2.2.1,())=some (c,p,ha)/\
   ((c=true/\p=0/\ ∃k' st,ek m k=.old k' st/\ha=(false,false,bk,[],0,k',(o.or st).isSome,(o.or st).getD 0,R))\/(c=false/\p=1/\(∀k' st,ek m k≠ .old k' st)/\Dz bk (iH o (ek m k)) ha.2.2.2.2.2.2.2.2)):=by
  intro x aw;subst aw;unfold k3;have ai:(decide ((-1:Int)= -1))=true:=rfl;cases au:ek m k with
  |gen v n=>
   simp only[nR,dt,ai,aA,aL];exact ⟨_,_,_,rfl,.inr ⟨rfl,rfl,fun _ _ h=>(by cases h),rfl⟩⟩
  |gone=>
   simp only[nR,dt,ai,aA,aL,bn];exact ⟨_,_,_,rfl,.inr ⟨rfl,rfl,fun _ _ h=>(by cases h),rfl⟩⟩
  |old k' st=>
   simp only[nR,dr,ai,aA,aL,bn];exact ⟨_,_,_,rfl,.inl ⟨rfl,rfl,k',st,rfl,rfl⟩⟩
 have len:=fun h=>anG _ (hm.from_ h)
 rcases hm.kind with h |h |h |h |h |h
 ·have e:wH (m,false,false,bk,[],0,k,o.isSome,o.getD 0,())=_:=afQ h bk k o;simp only[m6,h,cK,aA,aL,show (decide ((0:Int)<=1)&&decide ((1:Int)<7))=true from rfl,show Nat.beq (Int.toNat (1:Int)) 6=false from rfl,show Nat.beq (Int.toNat (1:Int)) 5=false from rfl,show Nat.beq (Int.toNat (1:Int)) 4=false from rfl,show Nat.beq (Int.toNat (1:Int)) 3=false from rfl,show Nat.beq (Int.toNat (1:Int)) 2=false from rfl,show Nat.beq (Int.toNat (1:Int)) 1=true from rfl,e];exact fin _ rfl
 ·have e:wI (m,false,false,bk,[],0,k,o.isSome,o.getD 0,())=_:=afR h bk k o;simp only[m6,h,cK,aA,aL,show (decide ((0:Int)<=2)&&decide ((2:Int)<7))=true from rfl,show Nat.beq (Int.toNat (2:Int)) 6=false from rfl,show Nat.beq (Int.toNat (2:Int)) 5=false from rfl,show Nat.beq (Int.toNat (2:Int)) 4=false from rfl,show Nat.beq (Int.toNat (2:Int)) 3=false from rfl,show Nat.beq (Int.toNat (2:Int)) 2=true from rfl,e];exact fin _ rfl
 ·have e:A5 (m,false,false,bk,[],0,k,o.isSome,o.getD 0,())=_:=afS h bk k o;simp only[m6,h,cK,aA,aL,show (decide ((0:Int)<=3)&&decide ((3:Int)<7))=true from rfl,show Nat.beq (Int.toNat (3:Int)) 6=false from rfl,show Nat.beq (Int.toNat (3:Int)) 5=false from rfl,show Nat.beq (Int.toNat (3:Int)) 4=false from rfl,show Nat.beq (Int.toNat (3:Int)) 3=true from rfl,e];exact fin _ rfl
 ·have e:A6 (m,false,false,bk,[],0,k,o.isSome,o.getD 0,())=_:=afT h bk k o av (len (.inl h));simp only[m6,h,cK,aA,aL,show (decide ((0:Int)<=4)&&decide ((4:Int)<7))=true from rfl,show Nat.beq (Int.toNat (4:Int)) 6=false from rfl,show Nat.beq (Int.toNat (4:Int)) 5=false from rfl,show Nat.beq (Int.toNat (4:Int)) 4=true from rfl,e];exact fin _ rfl
 ·have e:rv (m,false,false,bk,[],0,k,o.isSome,o.getD 0,())=_:=af9 h bk k o av (len (.inr h));simp only[m6,h,cK,aA,aL,show (decide ((0:Int)<=5)&&decide ((5:Int)<7))=true from rfl,show Nat.beq (Int.toNat (5:Int)) 6=false from rfl,show Nat.beq (Int.toNat (5:Int)) 5=true from rfl,e];exact fin _ rfl
 ·have e:A7 (m,false,false,bk,[],0,k,o.isSome,o.getD 0,())=_:=afU h bk k o;simp only[m6,h,cK,aA,aL,show (decide ((0:Int)<=6)&&decide ((6:Int)<7))=true from rfl,show Nat.beq (Int.toNat (6:Int)) 6=true from rfl,e];exact fin _ rfl
theorem anW (a b:Option Int) (s:Src):iH a (iH b s)=iH (a.or b) s:=by
 cases s with
 |gen v n=>cases a<;>cases b<;>rfl
 |gone=>rfl
 |old k st=>cases a<;>cases b<;>cases st<;>rfl
theorem anX (s:Src):iH none s=s:=by
 cases s with
 |gen v n=>rfl
 |gone=>rfl
 |old k st=>cases st<;>rfl
theorem YU {m:a6} (hm:fL m) {k k':af} {st:Option Int} (h:ek m k=.old k' st):k'.length<=k.length+4:=by
 rcases KS h with e |⟨aa,ad,al,bt,ag,aE⟩
 ·rw[e];omega
 ·have an:=hm.mv aa ad al bt;have dd:=rL _ an.from_;have:=DJ (f:=m.2.2.2.2.1) ag;rw[aE];omega
theorem YV: ∀{r:List a6},(∀m∈r,fL m)-> ∀{k k':af} {st:Option Int},eC r k=.old k' st->k'.length<=k.length+4*r.length
 |[],_,k,k',st,h=>by
  have h:Src.old k none=.old k' st:=h;injection h with ai aq
  rw[ai];simp
 |m::r,az,k,k',st,h=>by
  unfold eC at h;cases e:ek m k with
  |gen v n=>rw[e]at h;cases h
  |gone=>rw[e]at h;cases h
  |old k2 dC=>
   rw[e]at h;have h:iH dC (eC r k2)=.old k' st:=h;have dd:=YU (az m List.mem_cons_self) e;cases aq:eC r k2 with
   |gen v n=>rw[aq]at h;cases h
   |gone=>rw[aq]at h;cases h
   |old b5 wP=>
    rw[aq]at h;injection h with bb bx
    have:=YV (fun m hm=>az m (List.mem_cons_of_mem _ hm)) aq;rw[<-bb,List.length_cons];omega
theorem Kw (m:a6) (r:List a6) (k:af):eC (m::r) k=match ek m k with
  | .gen v n=>.gen v n
  | .gone=>.gone
  | .old k' st=>iH st (eC r k'):=rfl
theorem afl (bk:af) (l:List a6) (ao: ∀m∈l,fL m) (aQ:l.length<=1000) (av:bk.length<=100000):
  xR (bk,l,())=some (lr bk (eC l.reverse bk),()):=by
 have b8:i64.wrap (((List.length l):Int)-1)=((l.length:Int)-1):=by rw[cR (by omega)]
 obtain ⟨R,kz⟩: ∃R:tW,(false,false,[],[],0,[],false,0,())=R:=⟨_,rfl⟩;obtain ⟨z,aa,ad⟩:=bi (b:=y7) (fun j (q:Hg)=>(((l.length:Int)-1-(j:Int)),(0:Int),l,q)) l.length
  (fun j q=> ∃k o,q=(false,false,bk,[],0,k,o.isSome,o.getD 0,R)/\k.length<=bk.length+4*j/\eC l.reverse bk=iH o (eC (l.reverse.drop j) k))
  (fun z=>(∃ha:Hg,z=.inl ((1:Int),l,ha)/\Dz bk (eC l.reverse bk) ha.2.2.2.2.2.2.2.2)\/ ∃ha:Hg,z=.inr ((0:Int),l,ha)/\Dz bk (eC l.reverse bk) (ha.1,ha.2.1,ha.2.2.1,ha.2.2.2.1,ha.2.2.2.2.1,ha.2.2.2.2.2.1,ha.2.2.2.2.2.2.1,ha.2.2.2.2.2.2.2.1,())) (by omega)
  (fun j ay ha aN=>by
   obtain ⟨k,o,rfl,iN,gX⟩:=aN;obtain ⟨i,ab⟩: ∃i:Nat,l.length-1-j=i:=⟨_,rfl⟩;have sK:i<l.length:=by omega
   have Nh:j<l.reverse.length:=by rw[List.length_reverse];exact ay
   have NH:l.reverse[j]=l[i]:=by
    rw[List.getElem_reverse];congr 1
   have M3:l.reverse.drop j=l[i]::l.reverse.drop (j+1):=by rw[List.drop_eq_getElem_cons Nh,NH]
   have cW:((l.length:Int)-1-(j:Int))=(i:Int):=by omega
   have ai:(decide ((i:Int)>=(0:Int)))=true:=am (by omega);have aq:=fm i;have bb:(decide ((i:Int)<(List.length l:Int)))=true:=am (by omega);have bx:i64.wrap ((i:Int)-1)=((l.length:Int)-1-((j+1:Nat):Int)):=by rw[cR (by omega)];omega
   obtain ⟨c,p,bZ,g1,g2⟩:=apk (i:Int) l[i] (ao _ (List.getElem_mem sK)) bk k o R (by omega);rw[cW];have kx:m6 ((i:Int),l[i],(0:Int),false,false,bk,[],0,k,o.isSome,o.getD 0,R.1,R.2.1,R.2.2.1,R.2.2.2.1,R.2.2.2.2.1,R.2.2.2.2.2.1,R.2.2.2.2.2.2.1,R.2.2.2.2.2.2.2.1,())=some (c,p,bZ):=g1;simp only[y7,ai,aq,bb,aA,b7,bQ,cn sK,kx,bx];rw[M3,Kw]at gX;rcases g2 with ⟨rfl,rfl,k',st,g3,rfl⟩|⟨rfl,rfl,g3,g4⟩
   ·left;rw[g3]at gX;have gX:eC l.reverse bk=iH o (iH st (eC (l.reverse.drop (j+1)) k')):=gX;have:=YU (ao _ (List.getElem_mem sK)) g3;exact ⟨_,⟨k',o.or st,rfl,by omega,by rw[gX,anW]⟩,rfl⟩
   ·right;refine ⟨_,.inl ⟨bZ,rfl,?_⟩,rfl⟩;have:eC l.reverse bk=iH o (ek l[i] k):=by
     rw[gX];cases e:ek l[i] k with
     |gen v n=>rfl
     |gone=>rfl
     |old k' st=>exact absurd e (g3 k' st)
    rw[this];exact g4)
  (fun ha aN=>by
   obtain ⟨k,o,rfl,iN,gX⟩:=aN;have cW:((l.length:Int)-1-((l.length:Nat):Int))= -1:=by omega
   have ai:(decide ((-1:Int)>=(0:Int)))=false:=rfl;rw[cW];simp only[y7,ai,aL];refine ⟨_,.inr ⟨_,rfl,?_⟩,rfl⟩;rw[gX,List.drop_of_length_le (by rw[List.length_reverse];exact Nat.le_refl _)];show _=lr bk (.old k (o.or none));rw[pV];rfl)
  (false,false,bk,[],0,bk,false,0,R) ⟨bk,none,rfl,by omega,by rw[anX];rfl⟩
 have dc:=aa;simp only[Int.natCast_zero,Int.sub_zero]at dc;have apK:Mj (((l.length:Int)-1),(0:Int),l,false,false,bk,[],0,bk,false,0,false,false,[],[],0,[],false,0,())=some z:=by rw[kz];exact dc
 simp only[xR,zd,MA,b8,apK];rcases ad with ⟨ha,rfl,aE⟩|⟨ha,rfl,al⟩
 ·have a7:(decide ((1:Int)=0))=false:=rfl;have aY:(decide ((1:Int)=1))=true:=rfl;simp only[a7,aY,aA,aL];exact congrArg (fun f=>some (f,())) aE
 ·have a7:(decide ((0:Int)=0))=true:=rfl;simp only[a7,aA];exact congrArg (fun f=>some (f,())) al
end D
